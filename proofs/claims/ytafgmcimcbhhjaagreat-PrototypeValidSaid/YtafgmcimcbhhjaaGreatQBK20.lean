import Derived.Test.YtafgmcimcbhhjaaGreatQBPtE
set_option linter.unusedVariables false
set_option maxRecDepth 8000
set_option maxHeartbeats 16000000
namespace Go.Proofs.YtafgmcimcbhhjaaGreat
open Go.RowKit Go.Front Go.Num Stab
attribute [local go_sem] XW.cell XW.frozen
theorem aD.apz3{w:World}{s:SH}{qs:List Rat}{B:Nat}{T:TypeId}(h:aD w s qs)(hB:w.heap[B]?=some (.cells #[.bool false,.slice none 0 0,.slice none 0 0] T (0,0))):ApB s B:=by
 rcases Nat.eq_zero_or_pos s.n with h0|h0
 ·exact Or.inl h0
 right
 intro o ho;obtain ⟨sa,sn,sc⟩:=s;simp only at ho h0;obtain ⟨b,off,r,e,⟨c1,c2,c3⟩,hc⟩:=h.at (k:=0) h0;rw [ho] at e;simp only [Option.some.injEq,Addr.mk.injEq] at e;obtain ⟨rfl,rfl,-⟩:=e;rw [Nat.zero_mul,Nat.add_zero,ab hB] at c1 c3;rcases o with _|_|_|o <;> simp at c1 c3
 obtain ⟨rneg,ra,rn,rc,rb,rm,rd⟩:=r;simp only at c3;have h1:=hc.2.2.len;simp only at h1;rw [←c3.2.1] at h1;exact absurd (bQ.1 (nXj.1 h1)) (Rat.den_nz _)
theorem zV{w1:World}{b b' b'':Nat}{T T' T'':TypeId}{a0 a1 a2 a3 a4 a5 u0 u1 u2 u3 u4 u5 c0 c1 c2 v0 v1 v2 d0 d1 d2 x0 x1 x2:Value}{F:World→Prop}(hb:w1.heap[b]?=some (.cells #[a0,a1,a2,a3,a4,a5] T (0,0)))(hn:#[a0,a1,a2,a3,a4,a5].toList.all gN=true)
 (hb':w1.heap[b']?=some (.cells #[c0,c1,c2] T' (0,0)))(hn':#[c0,c1,c2].toList.all gN=true)(hb'':w1.heap[b'']?=some (.cells #[d0,d1,d2] T'' (0,0)))(hn'':#[d0,d1,d2].toList.all gN=true)(h1:b'≠b)(h2:b''≠b)(h3:b''≠b')
 (H:∀ w2 w3 w4 w5,gv w1 b T #[u0,u1,u2,u3,u4,u5] w2→gv w2 b' T' #[v0,v1,v2] w3→gv w3 b'' T'' #[x0,x1,x2] w4→Ext w4 w5→F w5) :
  F ((((((((((((w1.setCell ⟨b,0,none⟩ u0).setCell ⟨b,1,none⟩ u1).setCell ⟨b,2,none⟩ u2).setCell ⟨b,3,none⟩ u3).setCell ⟨b,4,none⟩ u4).setCell ⟨b,5,none⟩ u5).setCell ⟨b',0,none⟩ v0).setCell ⟨b',1,none⟩ v1).setCell ⟨b',2,none⟩ v2).setCell ⟨b'',0,none⟩ x0).setCell ⟨b'',1,none⟩ x1).setCell ⟨b'',2,none⟩ x2).drew :=
 bh (v0:=u0) (v1:=u1) (v2:=u2) (v3:=u3) (v4:=u4) (v5:=u5) (F:=fun W=>F (((((((W.setCell ⟨b',0,none⟩ v0).setCell ⟨b',1,none⟩ v1).setCell ⟨b',2,none⟩ v2).setCell ⟨b'',0,none⟩ x0).setCell ⟨b'',1,none⟩ x1).setCell ⟨b'',2,none⟩ x2).drew)) hb hn fun w2 T2 =>
  aU (v0:=v0) (v1:=v1) (v2:=v2) (F:=fun W=>F ((((W.setCell ⟨b'',0,none⟩ x0).setCell ⟨b'',1,none⟩ x1).setCell ⟨b'',2,none⟩ x2).drew)) (T2.rest _ _ h1 hb') hn' fun w3 T3 =>
   aU (v0:=x0) (v1:=x1) (v2:=x2) (F:=fun W=>F W.drew) (T3.rest _ _ h3 (T2.rest _ _ h2 hb'')) hn'' fun w4 T4=>H w2 w3 w4 _ T2 T3 T4 (Ext.drew _)
theorem lz(w:World):ak 43 [] w IvV (fun x w'=>aA w' x.1 (-1)∧aA w' x.2 1):=by
 have HX:=Hi (Ext.refl w);unfold ak;go_enter Tryz.func43,Tryz.ntmps43
 go_upto_region 1 with fail
 refine nmA ?_;intro w0 hE B0 hz_w0 hr_w0;replace HX:=hE.tr HX
 go_wp2_with fail
 refine cM (ck (-1) _ dZ dZ) fun x1 w1 hE G1=>?_
 refine mV2 hE ?_ B0 HX;clear B0 HX;intro B0 HX
 go_wp2_with fail
 refine cM (ck 1 _ dZ dZ) fun x2 w2 hE G2=>?_
 refine mV3 hE ?_ G1 B0 HX;clear G1 B0 HX;intro G1 B0 HX
 go_wp2_with fail
 refine cM (rB x1 x2 _ _ _ (G1.out.raw (Sz.int dZ) dZ) (G2.out.raw (Sz.int dZ) dZ)) fun x3 w3 hE G3=>?_
 refine mV2 hE ?_ B0 HX;clear B0 HX;intro B0 HX;replace b_B0:=bX3 B0;have e1:loV ((-1:Int):Rat) ((1:Int):Rat)=-1:=by decide +kernel
 have e2:hiV ((-1:Int):Rat) ((1:Int):Rat)=1:=by decide +kernel
 rw [e1,e2] at G3;obtain ⟨⟨ln,la,ll,lc,lb,lm,ld⟩,⟨hn,ha,hl,hc,hb,hm,hd⟩⟩:=x3;have HL:=Hi G3.out.1;have HH:=Hi G3.out.2;clear G3 e1 e2;go_wp2;refine bh (F:=fun W=>bodyPost Tryz.prog Tryz.f43 (BT IvV (fun x w'=>aA w' x.fst (-1)∧aA w' x.snd 1) w) Exit.ret _ W) B0.out rfl ?_;intro w10 T;replace HX:=Hi (T.ext HX.out zo);replace B0:=Hi (T.bx);replace HL:=Hi (HL.out.keep T.keep);replace HH:=Hi (HH.out.keep T.keep);clear T;replace b_B0:=bX3 B0;exact nXa (v:=IvV (⟨ln,la,ll,lc,lb,lm,ld⟩,⟨hn,ha,hl,hc,hb,hm,hd⟩)) (by simp [results,Tryz.results43,go_sem,b_B0.1]) rfl ⟨(⟨ln,la,ll,lc,lb,lm,ld⟩,⟨hn,ha,hl,hc,hb,hm,hd⟩),rfl,HX.out,HL.out,HH.out⟩
abbrev AlV(x:PH×RH×RH):Value:=.tuple #[x.1.v,x.2.1.v,x.2.2.v,.bool true]
def AlP(k n:Nat)(e r q:Rat)(x:PH×RH×RH)(w:World):Prop:=uB w x.1 (alG k n e r) (alE k n e q) (alP k n) (alD k n e r q)∧aA w x.2.1 e∧aA w x.2.2 r
theorem yx(z0 z1 z2 z3 z4:Int)(w:World)(h0:-9223372036854775808≤z0)(k0:z0≤9223372036854775807)(h1:-9223372036854775808≤z1)(k1:z1≤9223372036854775807)(h2:-9223372036854775808≤z2)(k2:z2≤9223372036854775807)(h3:-9223372036854775808≤z3)(k3:z3≤9223372036854775807)(h4:-9223372036854775808≤z4)(k4:z4≤9223372036854775807) :
  ak 40 [.int .i64 z0,.int .i64 z1,.int .i64 z2,.int .i64 z3,.int .i64 z4] w AlV (AlP (z0 % 4).toNat (zP z1) (edQ z2) (riQ z3) (seQ z4)):=by
 have HX:=Hi (Ext.refl w);obtain ⟨m0,e0,l0⟩:=fy z0 4 dZ;obtain ⟨m1,e1,l1⟩:=fy z1 5 dZ;obtain ⟨m2,e2,l2⟩:=fy z2 19 dZ;obtain ⟨m3,e3,l3⟩:=fy z3 30 dZ;obtain ⟨m4,e4,l4⟩:=fy z4 9 dZ;have C0:=Hi (mj z0 4 · h0 k0 dZ dZ);have C1:=Hi (mj z1 5 · h1 k1 dZ dZ);have C2:=Hi (mj z2 19 · h2 k2 dZ dZ);have C3:=Hi (mj z3 30 · h3 k3 dZ dZ);have C4:=Hi (mj z4 9 · h4 k4 dZ dZ);rw [e0] at C0;rw [e1] at C1;rw [e2] at C2;rw [e3] at C3;rw [e4] at C4;obtain ⟨n1,n5,-⟩:=vW z1;have hnz:zP z1=1+m1:=by unfold zP;omega
 obtain ⟨n,hn⟩:∃ n,n=zP z1:=⟨_,rfl⟩;obtain ⟨e,he⟩:∃ e,e=edQ z2:=⟨_,rfl⟩;obtain ⟨r,hr⟩:∃ r,r=riQ z3:=⟨_,rfl⟩;obtain ⟨q,hq⟩:∃ q,q=seQ z4:=⟨_,rfl⟩;have EF:Hid (EdF e):=Hi (by rw [he];exact Ft z2);have HR:Hid (0<r∧Sz 1 r):=Hi (by rw [hr];exact EJ z3);have HQ:Hid (0<q∧q<1∧Sz 1 q):=Hi (by rw [hq];exact ED z4);have HEE:Hid (e=(((m2:Int)-9:Int):Rat) / ((10:Int):Rat)):=Hi (by rw [he];unfold edQ;rw [e2]);have HRR:Hid (r=((1+(m3:Int):Int):Rat) / ((10:Int):Rat)):=Hi (by rw [hr];unfold riQ;rw [e3]);have HQQ:Hid (q=((1+(m4:Int):Int):Rat) / ((10:Int):Rat)):=Hi (by rw [hq];unfold seQ;rw [e4]);rw [←hn] at n1 n5 hnz;rw [←hn,←he,←hr,←hq,show (z0 % 4).toNat=m0 by omega];have HNZ:Hid ((1:Int)+(m1:Int)=(n:Int)):=Hi zo;have HWR:Hid (dP (n:Nat) e r=0):=Hi (rZ n1 zo EF.out HR.out.1);clear e0 e1 e2 e3 e4 hn he hr hq hnz h0 k0 h1 k1 h2 k2 h3 k3 h4 k4;unfold ak;go_enter Tryz.func40,Tryz.ntmps40
 go_upto_region 1 with fail
 refine qz ?_;intro w1 hE B10 B11 B12 hz_w1 hr_w1;replace HX:=hE.tr HX
 go_wp2_with fail
 refine cM (C1.out _) fun x20 w20 hE _=>?_
 refine mV4 hE ?_ B10 B11 B12 HX;clear B10 B11 B12 HX;intro B10 B11 B12 HX;have hs_w20:=hE.size
 go_wp2_with fail
 refine cM (C2.out _) fun x23 w23 hE _=>?_
 refine mV4 hE ?_ B10 B11 B12 HX;clear B10 B11 B12 HX;intro B10 B11 B12 HX;have hs_w23:=hE.size;rw [HNZ.out]
 go_wp2_with fail
 refine cM (fW ((m2:Int)-9) 10 _ zo zo dZ dZ) fun x25 w25 hE G25=>?_
 refine mV4 hE ?_ B10 B11 B12 HX;clear B10 B11 B12 HX;intro B10 B11 B12 HX;have hs_w25:=hE.size;rw [←HEE.out] at G25;have GE:=Hi G25.out;clear G25
 go_wp2_with fail
 refine cM (C3.out _) fun x27 w27 hE _=>?_
 refine mV5 hE ?_ B10 B11 B12 HX GE;clear B10 B11 B12 HX GE;intro B10 B11 B12 HX GE;have hs_w27:=hE.size
 go_wp2_with fail
 refine cM (fW (1+(m3:Int)) 10 _ zo zo dZ dZ) fun x29 w29 hE G29=>?_
 refine mV5 hE ?_ B10 B11 B12 HX GE;clear B10 B11 B12 HX GE;intro B10 B11 B12 HX GE;have hs_w29:=hE.size;rw [←HRR.out] at G29;have GR:=Hi G29.out;clear G29;obtain ⟨sn,sa,sl,sc,sb,sm,sd⟩:=x25;obtain ⟨tn,ta,tl,tc,tb,tm,td⟩:=x29
 go_upto_region 5 with fail
 refine qz ?_;intro w30 hE B15 B16 B17 hz_w30 hr_w30;refine mV6 hE ?_ B10 B11 B12 HX GE GR;clear B10 B11 B12 HX GE GR;intro B10 B11 B12 HX GE GR
 go_wp2_with fail
 refine cM (C0.out _) fun x31 w31 hE _=>?_
 refine mV8 hE ?_ B15 B16 B17 B10 B11 B12 HX GE;clear B15 B16 B17 B10 B11 B12 HX GE;intro B15 B16 B17 B10 B11 B12 HX GE;replace GR:=mV hE GR;replace b_B15:=bX3 B15;replace b_B16:=bX3 B16;have hk:m0=0∨m0=1∨m0=2∨m0=3:=by omega
 have HS:Hid (aP w31 ⟨sn,sa,sl,sc,sb,sm,sd⟩ e):=Hi (GE.out.raw EF.out.z dZ);have HT:Hid (aP w31 ⟨tn,ta,tl,tc,tb,tm,td⟩ r):=Hi (GR.out.raw HR.out.2 dZ);rcases hk with rfl|rfl|rfl|rfl
 ·skip
  go_wp2_with fail
  refine cM (l7 (n:Nat) ⟨sn,sa,sl,sc,sb,sm,sd⟩ ⟨tn,ta,tl,tc,tb,tm,td⟩ e r 1 _ HS.out HT.out EF.out.z HR.out.2 dZ dZ) fun x52 w52 hE G52=>?_
  refine mV8 hE ?_ B15 B16 B17 B10 B11 B12 HX GE;clear B15 B16 B17 B10 B11 B12 HX GE;intro B15 B16 B17 B10 B11 B12 HX GE;replace GR:=mV hE GR;replace b_B17:=bX3 B17;rw [HWR.out,Int.toNat_natCast] at G52;obtain ⟨⟨⟨gn,ga,gl,gc,gb,gm,gd⟩,⟨ea,en,ec⟩,gp,⟨da,dn,dc⟩⟩,ge⟩:=x52;obtain ⟨he,-,hp⟩:=G52.out;simp only at he;subst he;obtain ⟨pg,pe,pp,pd⟩:=hp rfl;simp only at pg pe pp pd;have PG:=Hi pg;have PE':=Hi pe;have PP:=Hi pp;have PD:=Hi pd;clear pg pe pp pd hp G52;have A1:=Hi (PE'.out.apz B17.out);have A2:=Hi (PD.out.apz B17.out);have A3:=Hi (PE'.out.apz B10.out);have A4:=Hi (PD.out.apz B10.out);have A5:=Hi (PE'.out.apz3 B11.out);have A6:=Hi (PD.out.apz3 B11.out);have A7:=Hi (PE'.out.apz3 B12.out);have A8:=Hi (PD.out.apz3 B12.out);clear HS HT;simp only [PE]
  go_upto_region 13 with fail
  refine bh B17.out rfl ?_;intro w80 T;have P1:=Hi (PE'.out.puta A1.out T);have D1:=Hi (PD.out.puta A2.out T);clear PE' PD;replace HX:=Hi (T.ext HX.out zo);replace B10:=Hi (T.rest _ _ zo B10.out);replace B11:=Hi (T.rest _ _ zo B11.out);replace B12:=Hi (T.rest _ _ zo B12.out);replace GE:=Hi (GE.out.keep T.keep);replace GR:=Hi (GR.out.keep T.keep);replace B15:=Hi (T.rest _ _ zo B15.out);replace B16:=Hi (T.rest _ _ zo B16.out);replace B17:=Hi (T.bx);replace PG:=Hi (PG.out.keep T.keep);clear T;replace b_B10:=bX3 B10;replace b_B11:=bX3 B11;replace b_B12:=bX3 B12;replace b_B15:=bX3 B15;replace b_B16:=bX3 B16;replace b_B17:=bX3 B17
  go_region
  refine zV B10.out rfl B11.out rfl B12.out rfl zo zo zo ?_;intro y2 y3 y4 y5 T2 T3 T4 hE5;have P2:=Hi (((((P1.out.puta A3.out T2).puta A5.out T3).puta A7.out T4)).ext hE5);have D2:=Hi (((((D1.out.puta A4.out T2).puta A6.out T3).puta A8.out T4)).ext hE5);have HX5:Hid (Ext w y5):=Hi ((T4.ext (T3.ext (T2.ext HX.out zo) zo) zo).trans hE5);have PG5:=Hi ((((PG.out.keep T2.keep).keep T3.keep).keep T4.keep).ext hE5);have GE5:=Hi ((((GE.out.keep T2.keep).keep T3.keep).keep T4.keep).ext hE5);have GR5:=Hi ((((GR.out.keep T2.keep).keep T3.keep).keep T4.keep).ext hE5);have Z10:=Hi (hE5.block (T4.rest _ _ zo (T3.rest _ _ zo T2.bx)));have Z11:=Hi (hE5.block (T4.rest _ _ zo T3.bx));have Z12:=Hi (hE5.block T4.bx);have c_Z10:=ab Z10.out;have c_Z11:=ab Z11.out;have c_Z12:=ab Z12.out;clear T2 T3 T4 hE5 b_B10 b_B11 b_B12 b_B15 b_B16 b_B17;go_wp2;exact nXa (v:=AlV (⟨⟨gn,ga,gl,gc,gb,gm,gd⟩,⟨ea,en,ec⟩,gp,⟨da,dn,dc⟩⟩,⟨sn,sa,sl,sc,sb,sm,sd⟩,⟨tn,ta,tl,tc,tb,tm,td⟩)) (by simp [results,Tryz.results40,go_sem,c_Z10,c_Z11,c_Z12]) rfl
   ⟨(⟨⟨gn,ga,gl,gc,gb,gm,gd⟩,⟨ea,en,ec⟩,gp,⟨da,dn,dc⟩⟩,⟨sn,sa,sl,sc,sb,sm,sd⟩,⟨tn,ta,tl,tc,tb,tm,td⟩),rfl,HX5.out,⟨PG5.out,P2.out,PP.out,D2.out⟩,GE5.out,GR5.out⟩
 ·skip
  go_wp2_with fail
  refine cM (pC (n:Nat) ⟨sn,sa,sl,sc,sb,sm,sd⟩ ⟨tn,ta,tl,tc,tb,tm,td⟩ e r 1 _ HS.out HT.out EF.out.z HR.out.2 dZ dZ) fun x61 w61 hE G61=>?_
  refine mV8 hE ?_ HX B10 B11 B12 GE GR B15 B16;clear HX B10 B11 B12 GE GR B15 B16;intro HX B10 B11 B12 GE GR B15 B16;replace B17:=mV hE B17;replace b_B17:=bX3 B17;rw [HWR.out,Int.toNat_natCast] at G61;obtain ⟨⟨⟨gn,ga,gl,gc,gb,gm,gd⟩,⟨ea,en,ec⟩,gp,⟨da,dn,dc⟩⟩,ge⟩:=x61;obtain ⟨he,-,hp⟩:=G61.out;simp only at he;subst he;obtain ⟨pg,pe,pp,pd⟩:=hp rfl;simp only at pg pe pp pd;have PG:=Hi pg;have PE':=Hi pe;have PP:=Hi pp;have PD:=Hi pd;clear pg pe pp pd hp G61;have A1:=Hi (PE'.out.apz B17.out);have A2:=Hi (PD.out.apz B17.out);have A3:=Hi (PE'.out.apz B10.out);have A4:=Hi (PD.out.apz B10.out);have A5:=Hi (PE'.out.apz3 B11.out);have A6:=Hi (PD.out.apz3 B11.out);have A7:=Hi (PE'.out.apz3 B12.out);have A8:=Hi (PD.out.apz3 B12.out);clear HS HT;simp only [PE]
  go_upto_region 13 with fail
  refine bh B17.out rfl ?_;intro w80 T;have P1:=Hi (PE'.out.puta A1.out T);have D1:=Hi (PD.out.puta A2.out T);clear PE' PD;replace HX:=Hi (T.ext HX.out zo);replace B10:=Hi (T.rest _ _ zo B10.out);replace B11:=Hi (T.rest _ _ zo B11.out);replace B12:=Hi (T.rest _ _ zo B12.out);replace GE:=Hi (GE.out.keep T.keep);replace GR:=Hi (GR.out.keep T.keep);replace B15:=Hi (T.rest _ _ zo B15.out);replace B16:=Hi (T.rest _ _ zo B16.out);replace B17:=Hi (T.bx);replace PG:=Hi (PG.out.keep T.keep);clear T;replace b_B10:=bX3 B10;replace b_B11:=bX3 B11;replace b_B12:=bX3 B12;replace b_B15:=bX3 B15;replace b_B16:=bX3 B16;replace b_B17:=bX3 B17
  go_region
  refine zV B10.out rfl B11.out rfl B12.out rfl zo zo zo ?_;intro y2 y3 y4 y5 T2 T3 T4 hE5;have P2:=Hi (((((P1.out.puta A3.out T2).puta A5.out T3).puta A7.out T4)).ext hE5);have D2:=Hi (((((D1.out.puta A4.out T2).puta A6.out T3).puta A8.out T4)).ext hE5);have HX5:Hid (Ext w y5):=Hi ((T4.ext (T3.ext (T2.ext HX.out zo) zo) zo).trans hE5);have PG5:=Hi ((((PG.out.keep T2.keep).keep T3.keep).keep T4.keep).ext hE5);have GE5:=Hi ((((GE.out.keep T2.keep).keep T3.keep).keep T4.keep).ext hE5);have GR5:=Hi ((((GR.out.keep T2.keep).keep T3.keep).keep T4.keep).ext hE5);have Z10:=Hi (hE5.block (T4.rest _ _ zo (T3.rest _ _ zo T2.bx)));have Z11:=Hi (hE5.block (T4.rest _ _ zo T3.bx));have Z12:=Hi (hE5.block T4.bx);have c_Z10:=ab Z10.out;have c_Z11:=ab Z11.out;have c_Z12:=ab Z12.out;clear T2 T3 T4 hE5 b_B10 b_B11 b_B12 b_B15 b_B16 b_B17;go_wp2;exact nXa (v:=AlV (⟨⟨gn,ga,gl,gc,gb,gm,gd⟩,⟨ea,en,ec⟩,gp,⟨da,dn,dc⟩⟩,⟨sn,sa,sl,sc,sb,sm,sd⟩,⟨tn,ta,tl,tc,tb,tm,td⟩)) (by simp [results,Tryz.results40,go_sem,c_Z10,c_Z11,c_Z12]) rfl
   ⟨(⟨⟨gn,ga,gl,gc,gb,gm,gd⟩,⟨ea,en,ec⟩,gp,⟨da,dn,dc⟩⟩,⟨sn,sa,sl,sc,sb,sm,sd⟩,⟨tn,ta,tl,tc,tb,tm,td⟩),rfl,HX5.out,⟨PG5.out,P2.out,PP.out,D2.out⟩,GE5.out,GR5.out⟩
 ·skip
  go_wp2_with fail
  refine cM (sM (n:Nat) ⟨sn,sa,sl,sc,sb,sm,sd⟩ ⟨tn,ta,tl,tc,tb,tm,td⟩ e r 1 _ HS.out HT.out EF.out.z HR.out.2 dZ dZ) fun x70 w70 hE G70=>?_
  refine mV8 hE ?_ HX B10 B11 B12 GE GR B15 B16;clear HX B10 B11 B12 GE GR B15 B16;intro HX B10 B11 B12 GE GR B15 B16;replace B17:=mV hE B17;replace b_B17:=bX3 B17;rw [HWR.out,Int.toNat_natCast] at G70;obtain ⟨⟨⟨gn,ga,gl,gc,gb,gm,gd⟩,⟨ea,en,ec⟩,gp,⟨da,dn,dc⟩⟩,ge⟩:=x70;obtain ⟨he,-,hp⟩:=G70.out;simp only at he;subst he;obtain ⟨pg,pe,pp,pd⟩:=hp rfl;simp only at pg pe pp pd;have PG:=Hi pg;have PE':=Hi pe;have PP:=Hi pp;have PD:=Hi pd;clear pg pe pp pd hp G70;have A1:=Hi (PE'.out.apz B17.out);have A2:=Hi (PD.out.apz B17.out);have A3:=Hi (PE'.out.apz B10.out);have A4:=Hi (PD.out.apz B10.out);have A5:=Hi (PE'.out.apz3 B11.out);have A6:=Hi (PD.out.apz3 B11.out);have A7:=Hi (PE'.out.apz3 B12.out);have A8:=Hi (PD.out.apz3 B12.out);clear HS HT;simp only [PE]
  go_upto_region 13 with fail
  refine bh B17.out rfl ?_;intro w80 T;have P1:=Hi (PE'.out.puta A1.out T);have D1:=Hi (PD.out.puta A2.out T);clear PE' PD;replace HX:=Hi (T.ext HX.out zo);replace B10:=Hi (T.rest _ _ zo B10.out);replace B11:=Hi (T.rest _ _ zo B11.out);replace B12:=Hi (T.rest _ _ zo B12.out);replace GE:=Hi (GE.out.keep T.keep);replace GR:=Hi (GR.out.keep T.keep);replace B15:=Hi (T.rest _ _ zo B15.out);replace B16:=Hi (T.rest _ _ zo B16.out);replace B17:=Hi (T.bx);replace PG:=Hi (PG.out.keep T.keep);clear T;replace b_B10:=bX3 B10;replace b_B11:=bX3 B11;replace b_B12:=bX3 B12;replace b_B15:=bX3 B15;replace b_B16:=bX3 B16;replace b_B17:=bX3 B17
  go_region
  refine zV B10.out rfl B11.out rfl B12.out rfl zo zo zo ?_;intro y2 y3 y4 y5 T2 T3 T4 hE5;have P2:=Hi (((((P1.out.puta A3.out T2).puta A5.out T3).puta A7.out T4)).ext hE5);have D2:=Hi (((((D1.out.puta A4.out T2).puta A6.out T3).puta A8.out T4)).ext hE5);have HX5:Hid (Ext w y5):=Hi ((T4.ext (T3.ext (T2.ext HX.out zo) zo) zo).trans hE5);have PG5:=Hi ((((PG.out.keep T2.keep).keep T3.keep).keep T4.keep).ext hE5);have GE5:=Hi ((((GE.out.keep T2.keep).keep T3.keep).keep T4.keep).ext hE5);have GR5:=Hi ((((GR.out.keep T2.keep).keep T3.keep).keep T4.keep).ext hE5);have Z10:=Hi (hE5.block (T4.rest _ _ zo (T3.rest _ _ zo T2.bx)));have Z11:=Hi (hE5.block (T4.rest _ _ zo T3.bx));have Z12:=Hi (hE5.block T4.bx);have c_Z10:=ab Z10.out;have c_Z11:=ab Z11.out;have c_Z12:=ab Z12.out;clear T2 T3 T4 hE5 b_B10 b_B11 b_B12 b_B15 b_B16 b_B17;go_wp2;exact nXa (v:=AlV (⟨⟨gn,ga,gl,gc,gb,gm,gd⟩,⟨ea,en,ec⟩,gp,⟨da,dn,dc⟩⟩,⟨sn,sa,sl,sc,sb,sm,sd⟩,⟨tn,ta,tl,tc,tb,tm,td⟩)) (by simp [results,Tryz.results40,go_sem,c_Z10,c_Z11,c_Z12]) rfl
   ⟨(⟨⟨gn,ga,gl,gc,gb,gm,gd⟩,⟨ea,en,ec⟩,gp,⟨da,dn,dc⟩⟩,⟨sn,sa,sl,sc,sb,sm,sd⟩,⟨tn,ta,tl,tc,tb,tm,td⟩),rfl,HX5.out,⟨PG5.out,P2.out,PP.out,D2.out⟩,GE5.out,GR5.out⟩
 ·skip
  have hmod:(n:Int).tmod 2=((n % 2:Nat):Int):=rfl;obtain ⟨d2,hd2⟩:∃ d,d=n % 2:=⟨_,rfl⟩;rw [←hd2] at hmod;have hmod2:(n:Int) % 2=(d2:Int):=zo;have HEN:Hid ((2:Int)+2*(d2:Int)=((elN n:Nat):Int)):=Hi (by unfold elN;omega);have HWE:Hid (dP (elN n:Nat) e r=0):=Hi (rZ (by unfold elN;omega) (by unfold elN;omega) EF.out HR.out.1);clear hd2
  go_upto_region 6 with fail
  refine aF [(14,13)] _ (by simp only [gI,kH,List.push_toArray,List.cons_append,List.nil_append];exact rfl) (by intro c a d v w h;cases d <;> exact h) 14 (fun opIx=>match opIx with
   | 7=>sU (.int .i64 (m4:Nat))
   | 9=>sR (q)
   | 10=>.spec (PH×Int) ((PH0,0)) (PE) (MkP 0 ((1:Int):Rat) (elE (elN n) e q) 0 (elD (elN n) e r q))
   | _=>.quiet) (fun|10=>[9]|_=>[]) kZ kZ kZ (fun w0 he0 hz0 hc0 hf0=>?_)
  replace he0:=Hi he0;simp only [pT]
  repeat (refine wpq fun K h=>?_;go_big_quiet_op;refine h _ ?_;clear h K;(try simp only [hmod,hmod2]))
  refine wps he0 (fun w1 hW hG=>?_) fun x40=>?_
  ·exact spc [.int .i64 z4,.int .i64 9] Tryz.func47 (C4.out _)
  simp only [pS]
  repeat (refine wpq fun K h=>?_;go_big_quiet_op;refine h _ ?_;clear h K;(try simp only [hmod,hmod2]))
  refine wps he0 (fun w1 hW hG=>?_) fun x42=>?_
  ·exact spc [.int .i64 (1+(m4:Int)),.int .i64 10] Tryz.func54 ((by rw [HQQ.out];exact fW (1+(m4:Int)) 10 _ zo zo dZ dZ))
  simp only [pS]
  repeat (refine wpq fun K h=>?_;go_big_quiet_op;refine h _ ?_;clear h K;(try simp only [hmod,hmod2]))
  refine wps he0 (fun w1 hW hG=>?_) fun x43=>?_
  ·have g42:=gS (hG 9 dZ);exact spc [.int .i64 (2+2*(d2:Int)),RH.v ⟨sn,sa,sl,sc,sb,sm,sd⟩,RH.v ⟨tn,ta,tl,tc,tb,tm,td⟩,x42.v] Tryz.func55 ((by rw [HEN.out];exact Cy (elN n) ⟨sn,sa,sl,sc,sb,sm,sd⟩ ⟨tn,ta,tl,tc,tb,tm,td⟩ x42 e r q 1 _ (tk n) (HS.out.ext hW) (HT.out.ext hW) (g42.raw HQ.out.2.2 dZ) EF.out.z HR.out.2 HQ.out.2.2 dZ dZ HWE.out HQ.out.1 HQ.out.2.1))
  simp only [pS]
  repeat (refine wpq fun K h=>?_;go_big_quiet_op;refine h _ ?_;clear h K;(try simp only [hmod,hmod2]))
  refine aj ?_;intro w43 hI;have hE:=he0.out.trans hI.ext;have G43:=gT (hI.facts 10);clear hI he0 hz0 hc0 hf0;refine mV8 hE ?_ HX B10 B11 B12 GE GR B15 B16;clear HX B10 B11 B12 GE GR B15 B16;intro HX B10 B11 B12 GE GR B15 B16;replace B17:=mV hE B17;replace b_B17:=bX3 B17;simp only [pD];obtain ⟨⟨⟨gn,ga,gl,gc,gb,gm,gd⟩,⟨ea,en,ec⟩,gp,⟨da,dn,dc⟩⟩,ge⟩:=x43;obtain ⟨he,-,hp⟩:=G43.out;simp only at he;subst he;obtain ⟨pg,pe,pp,pd⟩:=hp rfl;simp only at pg pe pp pd;have PG:=Hi pg;have PE':=Hi pe;have PP:=Hi pp;have PD:=Hi pd;clear pg pe pp pd hp G43;have A1:=Hi (PE'.out.apz B17.out);have A2:=Hi (PD.out.apz B17.out);have A3:=Hi (PE'.out.apz B10.out);have A4:=Hi (PD.out.apz B10.out);have A5:=Hi (PE'.out.apz3 B11.out);have A6:=Hi (PD.out.apz3 B11.out);have A7:=Hi (PE'.out.apz3 B12.out);have A8:=Hi (PD.out.apz3 B12.out);clear HS HT;simp only [PE]
  go_upto_region 13 with fail
  refine bh B17.out rfl ?_;intro w80 T;have P1:=Hi (PE'.out.puta A1.out T);have D1:=Hi (PD.out.puta A2.out T);clear PE' PD;replace HX:=Hi (T.ext HX.out zo);replace B10:=Hi (T.rest _ _ zo B10.out);replace B11:=Hi (T.rest _ _ zo B11.out);replace B12:=Hi (T.rest _ _ zo B12.out);replace GE:=Hi (GE.out.keep T.keep);replace GR:=Hi (GR.out.keep T.keep);replace B15:=Hi (T.rest _ _ zo B15.out);replace B16:=Hi (T.rest _ _ zo B16.out);replace B17:=Hi (T.bx);replace PG:=Hi (PG.out.keep T.keep);clear T;replace b_B10:=bX3 B10;replace b_B11:=bX3 B11;replace b_B12:=bX3 B12;replace b_B15:=bX3 B15;replace b_B16:=bX3 B16;replace b_B17:=bX3 B17
  go_region
  refine zV B10.out rfl B11.out rfl B12.out rfl zo zo zo ?_;intro y2 y3 y4 y5 T2 T3 T4 hE5;have P2:=Hi (((((P1.out.puta A3.out T2).puta A5.out T3).puta A7.out T4)).ext hE5);have D2:=Hi (((((D1.out.puta A4.out T2).puta A6.out T3).puta A8.out T4)).ext hE5);have HX5:Hid (Ext w y5):=Hi ((T4.ext (T3.ext (T2.ext HX.out zo) zo) zo).trans hE5);have PG5:=Hi ((((PG.out.keep T2.keep).keep T3.keep).keep T4.keep).ext hE5);have GE5:=Hi ((((GE.out.keep T2.keep).keep T3.keep).keep T4.keep).ext hE5);have GR5:=Hi ((((GR.out.keep T2.keep).keep T3.keep).keep T4.keep).ext hE5);have Z10:=Hi (hE5.block (T4.rest _ _ zo (T3.rest _ _ zo T2.bx)));have Z11:=Hi (hE5.block (T4.rest _ _ zo T3.bx));have Z12:=Hi (hE5.block T4.bx);have c_Z10:=ab Z10.out;have c_Z11:=ab Z11.out;have c_Z12:=ab Z12.out;clear T2 T3 T4 hE5 b_B10 b_B11 b_B12 b_B15 b_B16 b_B17;go_wp2;exact nXa (v:=AlV (⟨⟨gn,ga,gl,gc,gb,gm,gd⟩,⟨ea,en,ec⟩,gp,⟨da,dn,dc⟩⟩,⟨sn,sa,sl,sc,sb,sm,sd⟩,⟨tn,ta,tl,tc,tb,tm,td⟩)) (by simp [results,Tryz.results40,go_sem,c_Z10,c_Z11,c_Z12]) rfl
   ⟨(⟨⟨gn,ga,gl,gc,gb,gm,gd⟩,⟨ea,en,ec⟩,gp,⟨da,dn,dc⟩⟩,⟨sn,sa,sl,sc,sb,sm,sd⟩,⟨tn,ta,tl,tc,tb,tm,td⟩),rfl,HX5.out,⟨PG5.out,P2.out,PP.out,D2.out⟩,GE5.out,GR5.out⟩
open Sg
theorem yU{p q:List Rat}(hp:tz p=p)(hq:tz q=q)(h:∀ x,evV p x=evV q x):p=q:=by
 have:=jQ (i9 h);rw [hp,hq] at this;exact this
theorem Ff(l:List Rat)(c x:Rat):evV (bX l c) x=c*evV l x:=by unfold bX;rw [dN,bJ]
theorem p9(p q:List Rat)(x:Rat):evV (mH p q) x=evV p x-evV q x:=by
 unfold mH;rw [ev_add5,Ff];have:((-1:Int):Rat)=-1:=rfl;rw [this];grind
theorem vp(l:List Rat)(c:Rat):tz (scP l c)=scP l c:=aI _
theorem sy(p q:List Rat):tz (mH p q)=mH p q:=aI _
theorem Fl(n:Nat)(e r x:Rat):evV (buD n e r) x=(1+x) ^ n+r*aG e ^ n*(1-x) ^ n:=by
 unfold buD;rw [ev_add5,cI,fv,cI,fx,fg]
theorem Fk(n:Nat)(e r x:Rat):evV (chD n e r) x=(1+x) ^ n+r*evV (chW n e) x:=by
 unfold chD;rw [ev_add5,cI,fv,fx]
theorem Fh(n:Nat)(e r x:Rat):evV (inD n e r) x=(1-x) ^ n+r*evV (inW n e) x:=by
 unfold inD;rw [ev_add5,cI,fv,fg]
theorem xy(n:Nat)(x:Rat):evV (nuP ((1:Int):Rat) [((1:Int):Rat)] (n:Int)) x=(1+x) ^ n:=by
 rw [xu,BA,Int.toNat_natCast];have:((1:Int):Rat)=1:=rfl;rw [this];grind
theorem Fg{n:Nat}{e r:Rat}(h1:1≤n)(h5:n≤5)(he:EdF e)(x:Rat):evV (nuP (inQ n e r) (inE n e) ((n % 2:Nat):Int)) x=r*evV (inW n e) x:=by
 obtain ⟨hc,hce⟩:=gw he.lo he.hi;have hc0:aG e≠0:=fun h=>by rw [h] at hc;exact absurd hc Rat.lt_irrefl
 have hbc:bkV e*aG e=1:=by unfold bkV;rw [aK hc0];rfl
 have heE:evV (inE n e) x=rV n (bkV e*(1+x)) (1-x):=by
  unfold inE;rw [jm,fx,fg,E9 h1 h5]
 have hW:evV (inW n e) x=wV n (bkV e*(1+x)) (1-x):=by
  unfold inW;rw [jm,fx,fg,wR h1 h5]
 rw [xu,heE,hW,Int.toNat_natCast];unfold inQ wV;by_cases hn:n % 2=1
 ·rw [if_pos hn,if_pos hn,hn,j7];have e1:r / aG e=r*bkV e:=by
   grind
  rw [e1];grind
 ·rw [if_neg hn,if_neg hn,show n % 2=0 by omega,kL];grind
theorem Fj(n:Nat)(e q x:Rat):evV (nuP ((1:Int):Rat) (elE n e q) 0) x=evV (elE n e q) x*evV (elE n e q) x:=by
 rw [xu,show (0:Int).toNat=0 from rfl,kL];have:((1:Int):Rat)=1:=rfl;rw [this];grind
def F9(k n:Nat)(e r q:Rat):List Rat:=if k=0 then scP (bL miQ n) (r*aG e ^ n) else if k=1 then scP (chW n e) r else if k=2 then bL miQ n else scP (aq (elO (elN n) e q) (elO (elN n) e q)) r
theorem Fx{k n:Nat}{e r q:Rat}(hk:k<4)(h1:1≤n)(h5:n≤5)(he:EdF e):mH (tz (alD k n e r q)) (nuP (alG k n e r) (alE k n e q) (alP k n))=F9 k n e r q:=by
 have hh:k=0∨k=1∨k=2∨k=3:=by omega
 rcases hh with rfl|rfl|rfl|rfl
 ·refine yU (sy _ _) (vp _ _) (fun x=>?_);show evV (mH (tz (buD n e r)) (nuP ((1:Int):Rat) [((1:Int):Rat)] (n:Int))) x=evV (scP (bL miQ n) (r*aG e ^ n)) x;rw [p9,dN,Fl,xy,fv,cI,fg];grind
 ·refine yU (sy _ _) (vp _ _) (fun x=>?_);show evV (mH (tz (chD n e r)) (nuP ((1:Int):Rat) [((1:Int):Rat)] (n:Int))) x=evV (scP (chW n e) r) x;rw [p9,dN,Fk,xy,fv];grind
 ·refine yU (sy _ _) (Cr _ _) (fun x=>?_);show evV (mH (tz (inD n e r)) (nuP (inQ n e r) (inE n e) ((n % 2:Nat):Int))) x=evV (bL miQ n) x;rw [p9,dN,Fh,Fg h1 h5 he,cI,fg];grind
 ·refine yU (sy _ _) (vp _ _) (fun x=>?_);show evV (mH (tz (elD (elN n) e r q)) (nuP ((1:Int):Rat) (elE (elN n) e q) 0)) x=evV (scP (aq (elO (elN n) e q) (elO (elN n) e q)) r) x;rw [p9,dN,qf,Fj,fv,aJ];grind
theorem Gz{k n:Nat}{e r q:Rat}(hk:k<4)(h1:1≤n)(h5:n≤5)(he:EdF e)(zr:Sz 1 r)(zq:Sz 1 q):FrB 450 (F9 k n e r q)∧(F9 k n e r q).length≤6:=by
 have hh:k=0∨k=1∨k=2∨k=3:=by omega
 rcases hh with rfl|rfl|rfl|rfl
 ·exact ⟨((oz h5).scP (zr.mul (vO he.w h5)) zo).mono zo,nXf (bN _ _ (ft n)) zo⟩
 ·exact ⟨((yi h1 h5 he).scP zr zo).mono zo,bN _ _ (yh h5)⟩
 ·exact ⟨(oz h5).mono zo,nXf (ft n) zo⟩
 ·obtain ⟨-,b⟩:=elEO_len (n:=elN n) e q;exact ⟨(Gy (r:=r) (tk n) he.z zr zq (nXe 1)).fR.mono dZ,nXf (bN _ _ (bq b b)) dZ⟩
theorem Gm{g:Rat}{e d:List Rat}{p:Int}(h:AlZ g e d p):FrB 260 (nuP g e p)∧(nuP g e p).length≤6:=by
 have hp:=h.p5;have h0:=h.p0;have hl:=h.lp;have hle:=h.le;have f:=((h.fe.mul h.fe zo).mul (q9 (n:=p.toNat) zo) (by have:=bq (nXe e.length) (nXe e.length);omega)).scP h.zg zo;refine ⟨f.mono zo,nXf (bN _ _ (bq (bq (nXe e.length) (nXe e.length)) (iu p.toNat))) zo⟩
end Go.Proofs.YtafgmcimcbhhjaaGreat
/- How near two roots can be: on a short interval the changes of sign in a chain fall by one at most. Plain facts. -/
namespace Go.Proofs.YtafgmcimcbhhjaaGreat.Sg
open Go.RowKit Go.Front Go.Num Go.Stab Go.Proofs.YtafgmcimcbhhjaaGreat
theorem uw{z:Rat}(hz:z=1∨z=-1){f:Rat→Rat}{s t:Rat}(h:z*f s<z*f t):rN f s t=if z*f s<0∧0≤z*f t then 1 else 0:=by
 unfold rN;rcases hz with rfl|rfl
 ·rcases cj (f s) with ⟨c,e⟩|⟨c,e⟩|⟨c,e⟩ <;> rcases cj (f t) with ⟨d,g⟩|⟨d,g⟩|⟨d,g⟩ <;> rw [e,g] <;> first
   | (exfalso;grind)
   | (rw [if_pos dZ,if_pos ⟨by grind,by grind⟩])
   | (rw [if_neg dZ,if_neg (fun k=>by have k1:=k.1;have k2:=k.2;grind)])
 ·rcases cj (f s) with ⟨c,e⟩|⟨c,e⟩|⟨c,e⟩ <;> rcases cj (f t) with ⟨d,g⟩|⟨d,g⟩|⟨d,g⟩ <;> rw [e,g] <;> first
   | (exfalso;grind)
   | (rw [if_pos dZ,if_pos ⟨by grind,by grind⟩])
   | (rw [if_neg dZ,if_neg (fun k=>by have k1:=k.1;have k2:=k.2;grind)])
theorem Fit.rise{A B:Rat}{f:Rat→Rat}{l:List (Rat→Rat)}(h:Fit A B f l){z:Rat}(hz:z=1∨z=-1){lo hi:Rat}(hA:A≤lo)(hlh:lo<hi)(hB:hi≤B)(hr:∀ s t,lo≤s→s<t→t≤hi→z*f s<z*f t):V f l lo=V f l hi+(if z*f lo<0∧0≤z*f hi then 1 else 0):=by
 obtain ⟨e,he,hc⟩:=h.cell;refine k7 (A:=lo) (B:=hi) (P:=fun s t=>V f l s=V f l t+(if z*f s<0∧0≤z*f t then 1 else 0)) he (fun s t h1 h2 h3 h4=>?_) (fun s t u h1 h2 h3 h4 k1 k2=>?_) lo hi Rat.le_refl hlh Rat.le_refl
 ·rw [(hc s t (by grind) h2 (by grind) h4).1,uw hz (hr s t h1 h2 h3)]
 ·have a1:=hr s t h1 h2 (by grind);have a2:=hr t u (by grind) h3 h4;rw [k1,k2,Nat.add_assoc]
  congr 1
  by_cases b1:z*f t<0
  ·rw [if_neg (c:=z*f s<0∧0≤z*f t) (fun k=>by have:=k.2;grind),Nat.add_zero];by_cases b2:0≤z*f u
   ·rw [if_pos ⟨b1,b2⟩,if_pos ⟨by grind,b2⟩]
   ·rw [if_neg (fun k=>b2 k.2),if_neg (fun k=>b2 k.2)]
  ·rw [if_neg (c:=z*f t<0∧0≤z*f u) (fun k=>b1 k.1),Nat.zero_add];by_cases b2:z*f s<0
   ·rw [if_pos ⟨b2,by grind⟩,if_pos ⟨b2,by grind⟩]
   ·rw [if_neg (fun k=>b2 k.1),if_neg (fun k=>b2 k.1)]
theorem Fit.short{A B L b d:Rat}{f g:Rat→Rat}{l:List (Rat→Rat)}(h:Fit A B f l)(hL0:0≤L)(hL:Lip A B L f)(hG:Lip A B L g)(hS:∀ s t,A≤s→s≤t→t≤B→Bd (L*(t-s)*(t-s)) (f t-f s-g s*(t-s)))(hb:0<b)
 (hbig:∀ x,A≤x→x≤B→Big b (f x)∨Big b (g x))(hd:L*d<b){lo hi:Rat}(hA:A≤lo)(hlh:lo<hi)(hB:hi≤B)(hw:hi-lo≤d):V f l lo≤V f l hi+1∧(f lo=0→V f l lo=V f l hi):=by
 have hLd:∀ y,y≤d→L*y<b:=fun y hy=>by have:=aY hy hL0;grind
 rcases hbig lo hA (by grind) with h1|h1
 ·have hs:∀ x,lo≤x→x≤hi→sg (f x)=sg (f lo)∧sg (f lo)≠0:=fun x k1 k2=>Big.sign hL h1 hA k1 (by grind) (hLd _ (by grind))
  have hV:=h.calm hA hlh hB (fun s t k1 k2 k3 _=>by rw [(hs s k1 (by grind)).1,(hs t (by grind) k3).1]);refine ⟨zo,fun _=>hV⟩
 ·obtain ⟨z,hz,hzg⟩:∃ z:Rat,(z=1∨z=-1)∧b≤z*g lo:=by
   rcases h1 with k|k
   ·exact ⟨1,Or.inl rfl,by grind⟩
   ·exact ⟨-1,Or.inr rfl,by grind⟩
  have hr:∀ s t,lo≤s→s<t→t≤hi→z*f s<z*f t:=fun s t k1 k2 k3=>by
   obtain ⟨a1,a2⟩:=hG lo s hA k1 (by grind);obtain ⟨a3,a4⟩:=hS s t (by grind) (by grind) (by grind);have a5:=hLd (t-lo) (by grind);have a6:0<z*g s-L*(t-s):=by rcases hz with rfl|rfl <;> grind
   have a7:=sV a6 (show 0<t-s by grind);rcases hz with rfl|rfl <;> grind
  have hV:=h.rise hz hA hlh hB hr;refine ⟨?_,fun h0=>?_⟩
  ·rw [hV];split <;> omega
  ·rw [hV,if_neg (fun k=>by have:=k.1;rw [h0] at this;grind)];rfl
theorem pw1{a:Rat}(ha:1≤a)(k:Nat):1≤a ^ k:=by
 induction k with
 | zero=>rw [Rat.pow_zero];exact Rat.le_refl
 | succ k ih =>
  rw [Rat.pow_succ];have h6:=cP ih (show 0≤a by grind);grind
theorem vK{a:Rat}(ha:1≤a){k m:Nat}(h:k≤m):a ^ k≤a ^ m:=by
 obtain ⟨j,rfl⟩:∃ j,m=k+j:=⟨m-k,zo⟩;clear h;induction j with
 | zero=>exact Rat.le_refl
 | succ j ih =>
  rw [←Nat.add_assoc,Rat.pow_succ];have h1:=pw1 ha (k+j);have h2:=aY ha (show 0≤a ^ (k+j) by grind);grind
theorem vQ{C R:Rat}(hC:0≤C)(hR:1≤R):∀ p:List Rat,(∀ y ∈ p,Bd C y) →
  On (-R) R (C*(4*R) ^ p.length) (evV p)∧On (-R) R (C*(4*R) ^ p.length) (evD p)∧Lip (-R) R (C*(4*R) ^ p.length) (evV p)∧Lip (-R) R (C*(4*R) ^ p.length) (evD p) ∧
  ∀ s t,-R≤s→s≤t→t≤R→Bd (C*(4*R) ^ p.length*(t-s)*(t-s)) (evV p t-evV p s-evD p s*(t-s)):=by
 intro p;induction p with
 | nil =>
  intro _;rw [List.length_nil,Rat.pow_zero,Rat.mul_one];refine ⟨fun x _ _=>⟨by show -C≤(0:Rat);grind,hC⟩,fun x _ _=>⟨by show -C≤(0:Rat);grind,hC⟩,fun s t _ h _=>?_,fun s t _ h _=>?_,fun s t _ h _=>?_⟩
  ·have:=gu hC (show 0≤t-s by grind);exact ⟨by show -(C*(t-s))≤(0:Rat)-0;grind,by show (0:Rat)-0≤C*(t-s);grind⟩
  ·have:=gu hC (show 0≤t-s by grind);exact ⟨by show -(C*(t-s))≤(0:Rat)-0;grind,by show (0:Rat)-0≤C*(t-s);grind⟩
  ·have:=gu (gu hC (show 0≤t-s by grind)) (show 0≤t-s by grind);exact ⟨by show -(C*(t-s)*(t-s))≤(0:Rat)-0-0*(t-s);grind,by show (0:Rat)-0-0*(t-s)≤C*(t-s)*(t-s);grind⟩
 | cons c p ih =>
  intro hp;obtain ⟨i1,i2,i3,i4,i5⟩:=ih (fun y hy=>hp y (List.mem_cons_of_mem _ hy));have hc:=hp c List.mem_cons_self;rw [List.length_cons,Rat.pow_succ];have hP:=pw1 (show 1≤4*R by grind) p.length;generalize (4*R) ^ p.length=P at *
  have hCP:=aY hP hC;have hQ0:0≤C*P:=gu hC (by grind);have hQR:=aY hR hQ0;have hE:C*(P*(4*R))=4*(C*P*R):=by grind
  rw [hE];generalize C*P=Q at *
  have hx:∀ {x},-R≤x→x≤R→Bd R x:=fun h1 h2=>⟨h1,h2⟩
  refine ⟨fun x h1 h2=>?_,fun x h1 h2=>?_,fun s t h1 h2 h3=>?_,fun s t h1 h2 h3=>?_,fun s t h1 h2 h3=>?_⟩
  ·exact (((i1 x h1 h2).mul (hx h1 h2)).add hc).mono (by grind)
  ·exact (((i2 x h1 h2).mul (hx h1 h2)).add (i1 x h1 h2)).mono (by grind)
  ·have h0:0≤t-s:=by grind
   have a:=(i3 s t h1 h2 h3).mul (hx (show -R≤t by grind) h3);have b:=(i1 s h1 (by grind)).mul (Bd.self h0);have e:evV (c :: p) t-evV (c :: p) s=(evV p t-evV p s)*t+evV p s*(t-s):=by
    show evV p t*t+c-(evV p s*s+c)=_;grind
   rw [e];refine (a.add b).mono ?_;have k:=cP (show Q*R+Q≤4*(Q*R) by grind) h0;grind
  ·have h0:0≤t-s:=by grind
   have a:=(i4 s t h1 h2 h3).mul (hx (show -R≤t by grind) h3);have b:=(i2 s h1 (by grind)).mul (Bd.self h0);have e:evD (c :: p) t-evD (c :: p) s=(evD p t-evD p s)*t+evD p s*(t-s)+(evV p t-evV p s):=by
    show evD p t*t+evV p t-(evD p s*s+evV p s)=_;grind
   rw [e];refine ((a.add b).add (i3 s t h1 h2 h3)).mono ?_;have k:=cP (show Q*R+Q+Q≤4*(Q*R) by grind) h0;grind
  ·have h0:0≤t-s:=by grind
   have a:=(i5 s t h1 h2 h3).mul (hx (show -R≤t by grind) h3);have b:=((i2 s h1 (by grind)).mul (Bd.self h0)).mul (Bd.self h0);have e:evV (c :: p) t-evV (c :: p) s-evD (c :: p) s*(t-s)=(evV p t-evV p s-evD p s*(t-s))*t+evD p s*(t-s)*(t-s):=by
    show evV p t*t+c-(evV p s*s+c)-(evD p s*s+evV p s)*(t-s)=_;grind
   rw [e];refine (a.add b).mono ?_;have k:=cP (cP (show Q*R+Q≤4*(Q*R) by grind) h0) h0;grind
theorem Ec{S:Nat}{y:Rat}(h:Wz S y):Bd ((W32 ^ S:Nat):Rat) y:=by
 have e:=h.1.eq;have h2:=h.2;have h3:y.num≤((W32 ^ S:Nat):Int):=zo;have h4:-((W32 ^ S:Nat):Int)≤y.num:=zo;have k3:=Rat.intCast_le_intCast.2 h3;have k4:=Rat.intCast_le_intCast.2 h4;rw [Rat.intCast_neg,Rat.intCast_natCast] at k4;rw [Rat.intCast_natCast] at k3;rw [←e] at k3 k4;exact ⟨k4,k3⟩
theorem Eb{S:Nat}{y:Rat}(h:Wz S y)(h0:y≠0):Big 1 y:=by
 have e:=h.1.eq;have hn:y.num≠0:=fun k=>h0 (by rw [e,k];rfl)
 rcases Int.lt_or_gt_of_ne hn with k|k
 ·right
  have:=Rat.intCast_le_intCast.2 (show y.num≤-1 by omega);rw [←e] at this;exact this
 ·left
  have:=Rat.intCast_le_intCast.2 (show 1≤y.num by omega);rw [←e] at this;exact this
def Cf(S n T:Nat):Nat:=S+(S+2)*(2*n)+2*(n*(T+1))+1
theorem Ea{S:Nat}{p:List Rat}(h:∀ y ∈ p,Wz S y)(hl:p.length<W32):∀ y ∈ derL p,Wz (S+1) y:=fun y hy=>by
 have h1:∀ i,Wz S (seq p i):=fun i=>by
  show Wz S (p.getD i 0);rw [nXd];cases k:p[i]? with
  | none=>exact Wz.zero S
  | some z=>exact h z (List.mem_of_getElem? k)
 obtain ⟨i,hi,e⟩:=List.mem_iff_getElem.1 hy;have e2:y=seq (derL p) i:=by
  show y=(derL p).getD i 0;rw [nXd,List.getElem?_eq_getElem hi];exact e.symm
 rw [e2,seq_derL];by_cases hip:i+1<p.length
 ·have hz:Wz 1 ((i+1:Nat):Rat):=by
   have:=Wz.int (S:=1) (z:=((i+1:Nat):Int)) (by rw [nYi,Nat.pow_one];omega)
   rwa [Rat.intCast_natCast] at this
  rw [nYj S 1];exact hz.mul (h1 (i+1))
 ·rw [show seq p (i+1)=0 by show p.getD (i+1) 0=0;rw [nXd,List.getElem?_eq_none zo];rfl,nYc];exact Wz.zero _
theorem Ce{q:List Rat}(hc:Cp (evV q) (evD q)):Cp (evV (av q)) (evD (av q)):=by
 obtain ⟨u,v,hu,hv,h⟩:=hc;have e1:∀ x,evV q x=aM q*evV (av q) x:=dV q;have e2:∀ x,evD q x=aM q*evD (av q) x:=fun x=>by
  rw [←dt,←dt,←bJ];exact gQ (c:=1) (fun i=>by rw [aX,seq_derL,seq_derL,cQ q (i+1)];grind) x |>.trans (Rat.one_mul _)
 refine ⟨_,_,hu.smul (aM q),hv.smul (aM q),fun x=>?_⟩;have:=h x;rw [e1,e2] at this;show aM q*u x*_+aM q*v x*_=1;grind
theorem sep{q:List Rat}{S n T:Nat}(hq:tz q≠[])(hc:Cp (evV q) (evD q))(hw:∀ y ∈ av q,Wz S y)(hn:(av q).length≤n)(hn1:n≤1000){lo hi:Rat}(h1:-((W32 ^ T:Nat):Rat)≤lo)(h2:lo<hi)(h3:hi≤((W32 ^ T:Nat):Rat))(hd:(hi-lo)*((W32 ^ Cf S n T:Nat):Rat)≤1) :
  d9 (jp q) lo≤d9 (jp q) hi+1∧(evV q lo=0→d9 (jp q) lo=d9 (jp q) hi):=by
 obtain ⟨l,e,hfit⟩:=Gu hq hc;rw [fG,fG,mT e,mT e];have hcp:=Ce hc;have hz0:evV q lo=0→evV (av q) lo=0:=fun h=>by
  have k:=dV q lo;rw [h] at k;have:=bM hq;rcases nXr.1 k.symm with k|k
  ·rw [k] at this;exact absurd this Rat.lt_irrefl
  ·exact k
 obtain ⟨a,ha⟩:∃ a,a=av q:=⟨_,rfl⟩;rw [←ha] at hw hn hcp hz0 ⊢;have hF:=hfit (-((W32 ^ T:Nat):Rat)) ((W32 ^ T:Nat):Rat);rw [←ha] at hF;clear hfit
 suffices h:V (evV a) (l.map evV) lo≤V (evV a) (l.map evV) hi+1∧(evV a lo=0→V (evV a) (l.map evV) lo=V (evV a) (l.map evV) hi) from ⟨h.1,fun k=>h.2 (hz0 k)⟩
 have hR:(1:Rat)≤((W32 ^ T:Nat):Rat):=by exact_mod_cast nYn aw
 have hC:(0:Rat)≤((W32 ^ S:Nat):Rat):=by exact_mod_cast Nat.zero_le _
 have hlna:ln a≤n:=by have:=ae a;show (tz a).length≤n;omega
 by_cases hl1:ln a≤1
 ·have hk:=jj hl1;have hV:=hF.calm h1 h2 h3 (fun s t _ _ _ _=>by rw [hk,hk]);exact ⟨zo,fun _=>hV⟩
 have hdw:=Ea hw (show a.length<W32 by have:W32=4294967296:=rfl;omega);have hl2:1<(tz a).length:=by show 1<ln a;omega
 obtain ⟨m,hm⟩:∃ m,(tz a).length=m+2:=⟨(tz a).length-2,zo⟩;have hdt:=BG hm;have hlb:ln (derL a)≤n:=by have h8:=iE a (m+1) hm;have h9:(tz a).length≤n:=hlna;show (tz (derL a)).length≤n;omega
 obtain ⟨U,W,w,hw0,hU,hWl,hev,hUz,hWz,hwz⟩:=FR (a:=a) (b:=derL a) (S:=S+1) (fun y hy=>(hw y hy).mono zo) hdw zo (gP hdt) (by rw [show evV (derL a)=evD a from funext (dt a)];exact hcp) (by have:W32=4294967296:=rfl;omega);have hS2:(S+1+1)*(ln a+ln (derL a))≤(S+2)*(2*n):=nXg _ zo;have hbd:∀ p:List Rat,(∀ i,Wz ((S+1+1)*(ln a+ln (derL a))) (seq p i))→ln p≤n→∀ x,-((W32 ^ T:Nat):Rat)≤x→x≤((W32 ^ T:Nat):Rat)→Bd (((W32 ^ ((S+2)*(2*n)):Nat):Rat)*(4*((W32 ^ T:Nat):Rat)) ^ n) (evV p x):=fun p hp hl x k1 k2=>by
  have hC2:(0:Rat)≤((W32 ^ ((S+2)*(2*n)):Nat):Rat):=by exact_mod_cast Nat.zero_le _
  have:=(vQ hC2 hR (tz p) (fun y hy=>by
   obtain ⟨i,hi,e⟩:=List.mem_iff_getElem.1 hy;have e2:y=seq p i:=by
    rw [←aZ];show y=(tz p).getD i 0;rw [nXd,List.getElem?_eq_getElem hi];exact e.symm
   rw [e2];exact Ec ((hp i).mono hS2))).1 x k1 k2
  rw [show evV (tz p) x=evV p x from (gQ (c:=1) (fun i=>by rw [aZ,Rat.one_mul]) x).trans (Rat.one_mul _)] at this;exact this.mono (aY (vK (by grind) hl) hC2)
 have hUb:=hbd U hUz zo;have hWb:=hbd W hWz zo;obtain ⟨p1,-,p3,p4,p5⟩:=vQ hC hR a (fun y hy=>Ec (hw y hy));have hwb:=Eb hwz hw0;obtain ⟨M,hM⟩:∃ M,M=((W32 ^ ((S+2)*(2*n)):Nat):Rat)*(4*((W32 ^ T:Nat):Rat)) ^ n:=⟨_,rfl⟩;obtain ⟨L,hL⟩:∃ L,L=((W32 ^ S:Nat):Rat)*(4*((W32 ^ T:Nat):Rat)) ^ n:=⟨_,rfl⟩;rw [←hM] at hUb hWb;have hpm:(4*((W32 ^ T:Nat):Rat)) ^ a.length≤(4*((W32 ^ T:Nat):Rat)) ^ n:=vK (by grind) hn;have hlL:((W32 ^ S:Nat):Rat)*(4*((W32 ^ T:Nat):Rat)) ^ a.length≤L:=by rw [hL];exact aY hpm hC
 have hM1:1≤M:=by
  rw [hM];have h8:(1:Rat)≤((W32 ^ ((S+2)*(2*n)):Nat):Rat):=by exact_mod_cast nYn aw
  have h9:=aY (pw1 (show 1≤4*((W32 ^ T:Nat):Rat) by grind) n) (show 0≤((W32 ^ ((S+2)*(2*n)):Nat):Rat) by grind);grind
 have hL1:1≤L:=by
  rw [hL];have h8:(1:Rat)≤((W32 ^ S:Nat):Rat):=by exact_mod_cast nYn aw
  have h9:=aY (pw1 (show 1≤4*((W32 ^ T:Nat):Rat) by grind) n) (show 0≤((W32 ^ S:Nat):Rat) by grind);grind
 -- 16 M L is at most W32 ^ sepY
 have hML:16*(M*L)≤((W32 ^ Cf S n T:Nat):Rat):=by
  have e4:(4:Rat)*((W32 ^ T:Nat):Rat)≤((W32 ^ (T+1):Nat):Rat):=by
   rw [nXu,Rat.natCast_mul];have:(4:Rat)≤((W32:Nat):Rat):=by decide +kernel
   have:=aY this (show 0≤((W32 ^ T:Nat):Rat) by grind);grind
  have e5:(4*((W32 ^ T:Nat):Rat)) ^ n≤((W32 ^ (n*(T+1)):Nat):Rat):=by
   rw [nYf,Nat.pow_mul];clear hpm hlL hM hL hn hlna hlb hU hWl hS2 hbd hd hUb hWb hUz hWz hwz hev;have h0:0≤4*((W32 ^ T:Nat):Rat):=by grind
   induction n with
   | zero=>rw [Rat.pow_zero,Nat.pow_zero];exact Rat.le_refl
   | succ n ih =>
    rw [Rat.pow_succ,nXu,Rat.natCast_mul];have h6:=ih zo;have h7:=cP h6 h0;have h8:=aY e4 (show (0:Rat)≤(((W32 ^ (T+1)) ^ n:Nat):Rat) by exact_mod_cast Nat.zero_le _);grind
  have e6:(16:Rat)≤((W32 ^ 1:Nat):Rat):=by decide +kernel
  have e7:((W32 ^ Cf S n T:Nat):Rat)=((W32 ^ S:Nat):Rat)*((W32 ^ ((S+2)*(2*n)):Nat):Rat)*(((W32 ^ (n*(T+1)):Nat):Rat)*((W32 ^ (n*(T+1)):Nat):Rat))*((W32 ^ 1:Nat):Rat):=by
   unfold Cf;rw [Nat.pow_add,Nat.pow_add,Nat.pow_add,show 2*(n*(T+1))=n*(T+1)+n*(T+1) by omega,Nat.pow_add,Rat.natCast_mul,Rat.natCast_mul,Rat.natCast_mul,Rat.natCast_mul]
  have hp0:(0:Rat)≤(4*((W32 ^ T:Nat):Rat)) ^ n:=by have:=pw1 (show 1≤4*((W32 ^ T:Nat):Rat) by grind) n;grind
  have hC2:(0:Rat)≤((W32 ^ ((S+2)*(2*n)):Nat):Rat):=by exact_mod_cast Nat.zero_le _
  rw [hM,hL,e7];generalize (4*((W32 ^ T:Nat):Rat)) ^ n=P at *
  generalize ((W32 ^ ((S+2)*(2*n)):Nat):Rat)=C2 at *
  generalize ((W32 ^ (n*(T+1)):Nat):Rat)=Z at *
  generalize ((W32 ^ 1:Nat):Rat)=w1 at *
  generalize ((W32 ^ S:Nat):Rat)=C at *
  have g1:P*P≤Z*Z:=by have a1:=cP e5 hp0;have a2:=aY e5 (show 0≤Z by grind);grind
  have g2:=aY g1 (gu hC hC2);have g3:=aY e6 (gu (gu hC hC2) (gu (show 0≤Z by grind) (show 0≤Z by grind)));grind
 have hb:0<1 / (4*M):=tw dZ (by grind);have hbe:=aK (a:=1) (b:=4*M) (by grind);refine hF.short (L:=L) (b:=1 / (4*M)) (d:=hi-lo) (g:=evD a) (by grind) (p3.mono hlL) (p4.mono hlL) (fun s t k1 k2 k3=>(p5 s t k1 k2 k3).mono (cP (cP hlL (by grind)) (by grind))) hb (fun x k1 k2=>Classical.byContradiction fun hn=>?_) ?_ h1 h2 h3 Rat.le_refl
 ·obtain ⟨n1,n2⟩:¬ Big (1 / (4*M)) (evV a x)∧¬ Big (1 / (4*M)) (evD a x):=⟨fun h=>hn (Or.inl h),fun h=>hn (Or.inr h)⟩;obtain ⟨q1,q2⟩:=jf n1;obtain ⟨q3,q4⟩:=jf n2;generalize 1 / (4*M)=b at *
  obtain ⟨r1,r2⟩:=(hUb x k1 k2).mul (show Bd b (evV a x) from ⟨by grind,by grind⟩);obtain ⟨r3,r4⟩:=(hWb x k1 k2).mul (show Bd b (evD a x) from ⟨by grind,by grind⟩);have k:=hev x;rw [dt] at k;rcases hwb with h|h <;> grind
 ·have h8:=cP hML (show 0≤hi-lo by grind);generalize 1 / (4*M)=b at *
  generalize hi-lo=d at *
  have h9:16*(M*L)*d≤1:=by grind
  refine Classical.byContradiction fun hn=>?_
  have h10:=aY (show b≤L*d by grind) (show 0≤4*M by grind);grind
end Go.Proofs.YtafgmcimcbhhjaaGreat.Sg
