/- ResponseDelays returns true. -/
import Derived.Test.YtohahgiidooijaaGreatQDK12
import Derived.Test.YtohahgiidooijaaGreatQDK13
import Derived.Test.YtohahgiidooijaaGreatQDK19
import Derived.Test.YtohahgiidooijaaGreatRows
import Derived.Test.YtohahgiidooijaaGreatQDK1
import Derived.ProofKit
import Derived.OpenShut
import Derived.ShutString
import Derived.ChangeOld
import Derived.Lib.SmallJoins
set_option linter.unusedVariables false
namespace Go.Proofs.YtohahgiidooijaaGreat
open Go.RowKit Go.Front Go.Num Stab
attribute [local go_sem] XW.cell XW.frozen
theorem i4(s t:SH)(p q:List Rat)(S N M:Nat)(w:World)(h:aJ w s p)(k:aJ w t q)(hn:p.length≤N)(hm:q.length≤M)(hN:N≤100)(hM:M≤100)(zp:SzL S p)(zq:SzL S q)(hS:S≤1000000)(hb:N*M*(2*S+1)≤100010000) :
  au 25 [s.v,t.v] w SH.v (fun s w'=>aJ w' s (ag p q)):=by
 obtain ⟨ao,n,c⟩:=s;obtain ⟨bo,m,d⟩:=t;have e1:=h.len;have e2:=k.len;simp only at e1 e2;exact (oz ao bo n c m d p q S w (h.raw zp (by omega)) (k.raw zq (by omega)) (by omega) (by omega) zp zq hS (nXe (nXg _ (nXw (show n≤N by omega) (show m≤M by omega))) hb)).weak (fun _ _ _ h=>h.can)
theorem Ac(s t:SH)(p q:List Rat)(S:Nat)(w:World)(h:aJ w s p)(k:aJ w t q)(hn:p.length≤200)(hm:q.length≤200)(zp:SzL S p)(zq:SzL S q)(hS:S≤8000000) :
  au 26 [s.v,t.v] w SH.v (fun s w'=>aJ w' s (aS p q)):=by
 obtain ⟨ao,n,c⟩:=s;obtain ⟨bo,m,d⟩:=t;have e1:=h.len;have e2:=k.len;simp only at e1 e2;exact (sD ao bo n c m d p q w (h.raw zp (by omega)) (k.raw zq (by omega)) (by omega) (by omega) (zp.mono (by omega)) (zq.mono (by omega))).weak (fun _ _ _ h=>h.can)
theorem ye(s t:SH)(p q:List Rat)(S:Nat)(w:World)(h:aJ w s p)(k:aJ w t q)(hn:p.length≤200)(hm:q.length≤200)(zp:SzL S p)(zq:SzL S q)(hS:S≤8000000) :
  au 24 [s.v,t.v] w SH.v (fun s w'=>aJ w' s (go p q)):=by
 obtain ⟨ao,n,c⟩:=s;obtain ⟨bo,m,d⟩:=t;have e1:=h.len;have e2:=k.len;simp only at e1 e2;exact (mJ ao bo n c m d p q w (h.raw zp (by omega)) (k.raw zq (by omega)) (by omega) (by omega) (zp.mono (by omega)) (zq.mono (by omega))).weak (fun _ _ _ h=>h.can)
theorem FrB.drop{S:Nat}{l:List Rat}(h:FrB S l)(k:Nat):FrB S (l.drop k):=by
 obtain ⟨h0,D,h1,h2,h3⟩:=h;exact ⟨h0,D,h1,h2,fun x hx=>h3 x (List.mem_of_mem_drop hx)⟩
structure Gp (xn xd yn yd zn zd:List Rat):Prop where
 a1:SzL 26001 (ag xd yd)
 l1:(ag xd yd).length≤36
 a2:SzL 39002 (ag zn (ag xd yd))
 l2:(ag zn (ag xd yd)).length≤60
 a3:SzL 26001 (ag xn yd)
 l3:(ag xn yd).length≤36
 a4:SzL 26001 (ag yn xd)
 l4:(ag yn xd).length≤36
 a5:SzL 52003 (aS (ag xn yd) (ag yn xd))
 l5:(aS (ag xn yd) (ag yn xd)).length≤36
 a6:SzL 65004 (ag zd (aS (ag xn yd) (ag yn xd)))
 l6:(ag zd (aS (ag xn yd) (ag yn xd))).length≤60
theorem FO{b a h xn xd yn yd zn zd:List Rat}{m:Nat}(S:Ga b a h xn xd yn yd zn zd m):Gp xn xd yn yd zn zd:=by
 have fx:FrB 13000 xd:=S.fx.mono (by decide);have lx:xd.length≤18:=nXe S.lx (by decide);have f1:FrB 26001 (ag xd yd):=fx.mul S.hy.1 (by omega);have l1:(ag xd yd).length≤36:=nXe (bI lx S.hy.2) (by decide);have f2:FrB 39002 (ag zn (ag xd yd)):=S.gz.1.mul f1 (by have:=S.gz.2;omega);have f3:FrB 26001 (ag xn yd):=S.gx.1.mul S.hy.1 (by have:=S.gx.2;omega);have l3:(ag xn yd).length≤36:=nXe (bI S.gx.2 S.hy.2) (by decide);have f4:FrB 26001 (ag yn xd):=S.gy.1.mul fx (by have:=S.gy.2;omega);have l4:(ag yn xd).length≤36:=nXe (bI S.gy.2 lx) (by decide);have f5:FrB 52003 (aS (ag xn yd) (ag yn xd)):=f3.add f4;have l5:=sC l3 l4;have f6:FrB 65004 (ag zd (aS (ag xn yd) (ag yn xd))):=S.hz.1.mul f5 (by have:=S.hz.2;omega);exact ⟨f1.sz,l1,f2.sz,nXe (bI S.gz.2 l1) (by decide),f3.sz,l3,f4.sz,l4,f5.sz,l5,f6.sz,nXe (bI S.hz.2 l5) (by decide)⟩
theorem zN{p:List Rat}(hl:p.length≤4)(ht:tz p=p){m:Nat}(h3:3≤m)(h5:m≤5):jT p (m:Int)=(0,jU (tbV p.length p) m):=by
 unfold jT;rw [ht,if_neg (by omega),if_neg (by omega)];rfl
structure Gq (p h:List Rat) (m:Nat):Prop where
 tz:tz h=h
 fr:FrB 20 h
 len:h.length≤2*m+1
 sym:∀ k,k≤2*m→seq h k=seq h (2*m-k)
 ne:p≠[]→h≠[]
theorem FQ{p:List Rat}(hz:SzL 1 p)(hl:p.length≤4)(ht:tz p=p){m:Nat}(h3:3≤m):Gq p (tz (jU (tbV p.length p) m)) m:=by
 have fp:FrB 6 p:=FrB.of (n:=4) hz hl;have fc:FrB 18 (tbV p.length p):=(tK fp (by omega)).mono (by omega);refine ⟨av _,((tM fc).mono (by decide)).tz,Dl _ _,fun k hk=>A6 _ _ _ hk,fun hp=>Dk Cd ?_ (by rw [jp];omega)⟩;have h:=Fp (p:=p) (by rw [ht];exact hp);rw [ht] at h;exact h
theorem Fm(z:Int)(k1:0≤z∧z≤255):∃ n:Nat,z.tmod 3=(n:Int)∧n<3:=by
 have h1:=Int.tmod_nonneg 3 k1.1;have h2:=Int.tmod_lt_of_pos z (show (0:Int)<3 by decide);exact ⟨(z.tmod 3).toNat,by omega,by omega⟩
def IvD(x:RH×RH)(a b:Rat)(w:World):Prop:=ay w x.1 a∧ay w x.2 b
theorem IvD.ext{x:RH×RH}{a b:Rat}{w w':World}(h:IvD x a b w)(he:Ext w w'):IvD x a b w':=⟨h.1.ext he,h.2.ext he⟩
instance {x:RH×RH} {a b:Rat} {w w':World}:Go.Front.Mv w w' (IvD x a b w) (IvD x a b w'):=⟨fun e h=>IvD.ext h e⟩

set_option maxRecDepth 8000 in
set_option maxHeartbeats 16000000 in
theorem tg(bo ko lo:Option Addr)(bc kc lc:Nat)(bs ks ls:List Int)(z:Int)(w:World)
 (h0:cx w bo bs)(r0:InR bs)(l0:bs.length≤9223372036854775807)(c0:bs.length≤bc)(m0:bc≤9223372036854775807)
 (h1:cx w ko ks)(r1:InR ks)(l1:ks.length≤9223372036854775807)(c1:ks.length≤kc)(m1:kc≤9223372036854775807)
 (h2:cx w lo ls)(r2:InR ls)(l2:ls.length≤9223372036854775807)(c2:ls.length≤lc)(m2:lc≤9223372036854775807)
 (hz:0≤z∧z≤255) :
  au 4 [.slice bo bs.length bc,.slice ko ks.length kc,.slice lo ls.length lc,.int .u8 z] w (fun _:Unit=>.bool true) (fun _ _=>True):=by
 have HX:=Hi (Ext.refl w);have HC1:Hid (∀ w1,Ext w w1→au 14 [.slice bo bs.length bc,.slice ko ks.length kc] w1 FH.v (fun f w'=>Fg w' f (vU bs) (xL ks))):=Hi (fun w1 hE=>s6 bo ko bc kc bs ks w1 (h0.ext hE) r0 l0 c0 m0 (h1.ext hE) r1 l1 c1 m1);have HC2:Hid (∀ w1,Ext w w1→au 15 [.slice lo ls.length lc,.int .i64 ((3:Nat):Int)] w1 SH.v (fun s w'=>aJ w' s (kK ls 3))):=Hi (fun w1 hE=>(rB lo lc 3 ls w1 (h2.ext hE) r2 l2 (by decide) c2 m2).weak (fun _ _ _ h=>h.can));have P1:=Hi (FI bs ks);have ZP:=Hi (Fv ls 3);have LP:=Hi (DO ls 3);have TP:Hid (tz (kK ls 3)=kK ls 3):=Hi (av _);obtain ⟨n0,e0⟩:∃ n,n=bs.length:=⟨_,rfl⟩;obtain ⟨n1,e1⟩:∃ n,n=ks.length:=⟨_,rfl⟩;obtain ⟨n2,e2⟩:∃ n,n=ls.length:=⟨_,rfl⟩;obtain ⟨b,eb⟩:∃ b,b=vU bs:=⟨_,rfl⟩;obtain ⟨a,ea⟩:∃ a,a=xL ks:=⟨_,rfl⟩;obtain ⟨p,ep⟩:∃ p,p=kK ls 3:=⟨_,rfl⟩;rw [←e0,←e1,←eb,←ea] at HC1;rw [←e2,←ep] at HC2;rw [←eb,←ea] at P1;rw [←ep] at ZP LP TP;rw [←e0,←e1,←e2];clear e0 e1 e2 eb ea ep h0 r0 l0 c0 m0 h1 r1 l1 c1 m1 h2 r2 l2 c2 m2;obtain ⟨m',em,hm'⟩:=Fm z hz;obtain ⟨m,hm⟩:∃ m,m=3+m':=⟨_,rfl⟩;have hmi:(3:Int)+m'=m:=by omega
 have hm3:3≤m:=by omega
 have hm5:m≤5:=by omega
 clear hm;have HV:=Hi (zN LP.out TP.out hm3 hm5);have HH:=Hi (FQ ZP.out LP.out TP.out hm3);have ZC2:Hid (SzL 5000000 (tbV (tz p).length (tz p))):=Hi (by rw [TP.out];exact ((tK (FrB.of (n:=4) ZP.out LP.out) (by have:=LP.out;omega)).mono (show _≤5000000 by have:=LP.out;omega)).sz);have ZT:Hid (SzL 20 (jU (tbV p.length p) m)):=Hi ((tM ((tK (FrB.of (n:=4) ZP.out LP.out) (by have:=LP.out;omega)).mono (show _≤19 by have:=LP.out;omega))).sz);have LT:Hid ((jU (tbV p.length p) m).length≤11):=Hi (by unfold jU;rw [nXk,nXs];omega);obtain ⟨t,et⟩:∃ t,t=jU (tbV p.length p) m:=⟨_,rfl⟩;obtain ⟨h,eh⟩:∃ h,h=tz t:=⟨_,rfl⟩;rw [←et] at HV HH ZT LT;rw [←eh] at HH;have EH:=Hi eh;clear et eh;unfold au;go_enter Tryz.func4,Tryz.ntmps4
 go_wp2_with fail
 refine cM (HC1.out _ HX.out) fun x1 w1 hE G1=>?_
 replace HX:=hE.tr HX;have hs_w1:=hE.size;clear hE;obtain ⟨⟨ba,bn,bc⟩,⟨aa,an,ac⟩⟩:=x1;have LB:=Hi G1.out.1;have LA:=Hi G1.out.2;have hbn:=G1.out.1.len;have han:=G1.out.2.len;clear G1;simp only at LB LA hbn han;have HBn:=Hi hbn;have HAn:=Hi han;clear hbn han;simp only [FH.v,SH.v]
 go_upto_region 2 with fail
 refine nmA ?_;intro w2 hE B9 hz_w2 hr_w2;refine mV3 hE ?_ HX LB LA;clear HX LB LA;intro HX LB LA;have hs_w2:=hE.size;clear hE;replace b_B9:=bX3 B9
 go_wp2_with fail
 refine cM (HC2.out _ HX.out) fun x3 w3 hE G3=>?_
 refine mV4 hE ?_ B9 HX LB LA;clear B9 HX LB LA;intro B9 HX LB LA;have hs_w3:=hE.size;clear hE;replace b_B9:=bX3 B9;obtain ⟨pa,pn,pc⟩:=x3;have hpn:=G3.out.len;simp only at hpn;have hpl:=LP.out;rw [hpn] at hpl;have HPn:=Hi hpn;clear hpn;simp only [SH.v]
 go_wp2_with fail
 refine cM (tL pa pn pc 1 p (m:Nat) _ (G3.out.raw ZP.out (by decide)) (by omega) ZP.out (by decide) (by decide) ZC2.out) fun x4 w4 hE G4=>?_
 refine mV5 hE ?_ G3 B9 HX LB LA;clear G3 B9 HX LB LA;intro G3 B9 HX LB LA;have hs_w4:=hE.size;clear hE;replace b_B9:=bX3 B9;obtain ⟨⟨ta,tn,tc⟩,e4⟩:=x4;obtain ⟨he,hl⟩:=G4.out;rw [HV.out] at he hl;simp only at he hl;subst he;have L4:=Hi hl;have htn:=hl.len;simp only at htn;clear hl G4;simp only [RF,SH.v];have htn2:tn≤1073741824:=by have:=LT.out;omega
 go_wp2_with fail
 refine cM ((aN ta tn tc t _ (L4.out.raw ZT.out (by decide)) htn2).weak (ψ:=fun x w'=>aJ w' x (tz t)) (fun _ _ _ h=>h.can)) fun x5 w5 hE G5=>?_
 refine mV6 hE ?_ G3 B9 HX LB LA L4;clear G3 B9 HX LB LA L4;intro G3 B9 HX LB LA L4;have hs_w5:=hE.size;clear hE;replace b_B9:=bX3 B9;clear L4;rw [←EH.out] at G5;obtain ⟨ha,hn,hc⟩:=x5;simp only [SH.v]
 go_wp2_with fail
 refine cM (aX 1 _ (by decide) (by decide)) fun x6 w6 hE G6=>?_
 refine mV6 hE ?_ G5 G3 B9 HX LB LA;clear G5 G3 B9 HX LB LA;intro G5 G3 B9 HX LB LA;have hs_w6:=hE.size;clear hE;replace b_B9:=bX3 B9
 go_upto_region 6 with fail
 refine jV ?_;intro w7 hE B44 B14 hz_w7 hr_w7;refine mV7 hE ?_ G6 G5 G3 B9 HX LB LA;clear G6 G5 G3 B9 HX LB LA;intro G6 G5 G3 B9 HX LB LA;have hs_w7:=hE.size;clear hE;replace b_B9:=bX3 B9;replace b_B44:=bX3 B44;replace b_B14:=bX3 B14;have L1:=Hi (mB B44.out G6.out)
 (try clear b_B44);clear B44
 clear G6;obtain ⟨b6,hb6⟩:∃ b6,b6=w6.heap.size:=⟨_,rfl⟩;rw [←hb6] at B14 L1 ⊢;clear hb6 b_B14;replace b_B9:=bX3 B9;replace b_B14:=bX3 B14;by_cases hb0:bn=0
 case pos =>
  subst hb0
  go_wp2_with fail
  refine cM (iE _) fun x20 w20 hE _=>?_
  refine mV8 hE ?_ B14 G5 G3 B9 HX LB LA L1;clear B14 G5 G3 B9 HX LB LA L1;intro B14 G5 G3 B9 HX LB LA L1;have hs_w20:=hE.size;clear hE;replace b_B9:=bX3 B9;replace b_B14:=bX3 B14;go_wp2
  go_ret
  exact ⟨(),rfl,HX.out,trivial⟩
 have hbb:((bn:Int) == 0)=false:=by rw [nXr];omega
 by_cases hp0:pn=0
 case pos =>
  subst hp0
  go_wp2_with fail
  refine cM (iE _) fun x20 w20 hE _=>?_
  refine mV8 hE ?_ B14 G5 G3 B9 HX LB LA L1;clear B14 G5 G3 B9 HX LB LA L1;intro B14 G5 G3 B9 HX LB LA L1;have hs_w20:=hE.size;clear hE;replace b_B9:=bX3 B9;replace b_B14:=bX3 B14;go_wp2
  go_ret
  exact ⟨(),rfl,HX.out,trivial⟩
 have hpb:((pn:Int) == 0)=false:=by rw [nXr];omega
 have hbne:b≠[]:=fun e=>by have:=HBn.out;rw [e] at this;exact hb0 this.symm
 have hpne:p≠[]:=fun e=>by have:=HPn.out;rw [e] at this;exact hp0 this.symm
 obtain ⟨xn,xd,yn,yd,zn,zd,hS⟩:=FP P1.out hbne (HH.out.ne hpne) HH.out.tz HH.out.fr hm5 HH.out.len HH.out.sym;have DS:=Hi hS;have DZ:=Hi (FO hS);clear hS hbne hpne;clear G3;have hbn4:bn≤4:=by have:=P1.out.lb;rw [HBn.out] at this;exact this
 have han4:an≤4:=by have:=P1.out.la;rw [HAn.out] at this;exact this
 have hhn:hn≤11:=by have:=G5.out.len;have h2:=DS.out.lh;simp only at this;omega
 have one40:=Hi (pM.mono (show 3≤40 by decide));have fb40:=Hi (P1.out.zb.mono (show 7≤40 by decide));have fa40:=Hi (P1.out.za.mono (show 7≤40 by decide));have RF0:Hid (pe w7 ⟨⟨ba,bn,bc⟩,⟨aa,an,ac⟩⟩ b a):=Hi ⟨LB.out.raw fb40.out.sz (by decide),LA.out.raw fa40.out.sz (by decide)⟩;have RG0:Hid (pe w7 ⟨⟨ha,hn,hc⟩,⟨some ⟨b6,0,none⟩,1,1⟩⟩ h [1]):=Hi ⟨G5.out.raw DS.out.fh.sz (by decide),L1.out.raw one40.out.sz (by decide)⟩;clear LB;clear LA;clear G5;clear L1
 go_wp2_with fail
 refine cM (nY ⟨⟨ba,bn,bc⟩,⟨aa,an,ac⟩⟩ ⟨⟨ha,hn,hc⟩,⟨some ⟨b6,0,none⟩,1,1⟩⟩ b a h [1] 40 _ RF0.out RG0.out ⟨by simp only;omega,by simp only;omega⟩ ⟨by simp only;omega,by show 1≤100;decide⟩ fb40.out fa40.out DS.out.fh one40.out (by decide)) fun x8 w8 hE G8=>?_
 refine mV5 hE ?_ B14 B9 HX RF0 RG0;clear B14 B9 HX RF0 RG0;intro B14 B9 HX RF0 RG0;have hs_w8:=hE.size;clear hE;replace b_B9:=bX3 B9;replace b_B14:=bX3 B14;obtain ⟨⟨⟨sa,sn,sc⟩,⟨ra,rn,rc⟩⟩,e8⟩:=x8;obtain ⟨he,hu⟩:=G8.out;rw [DS.out.es] at he hu;simp only at he hu;have hsn:sn≤14:=by have:=hu.1.len;have h2:=DS.out.ls;simp only at this;omega
 have hrn:rn≤5:=by have:=hu.2.len;have h2:=DS.out.lt;simp only at this;omega
 have RS0:Hid (pe w8 ⟨⟨sa,sn,sc⟩,⟨ra,rn,rc⟩⟩ (ag b h) (ag a [1])):=Hi ⟨hu.1.raw DS.out.fs.sz (by decide),hu.2.raw DS.out.ft.sz (by decide)⟩;clear hu G8;subst he;simp only [FE,FH.v,SH.v]
 go_upto_region 9 with fail
 refine nmA ?_;intro w9 hE B15 hz_w9 hr_w9;refine mV6 hE ?_ B14 B9 HX RF0 RG0 RS0;clear B14 B9 HX RF0 RG0 RS0;intro B14 B9 HX RF0 RG0 RS0;have hs_w9:=hE.size;clear hE;replace b_B9:=bX3 B9;replace b_B14:=bX3 B14;replace b_B15:=bX3 B15
 go_wp2_with fail
 refine cM (fV ⟨⟨ba,bn,bc⟩,⟨aa,an,ac⟩⟩ b a 40 _ RF0.out ⟨by simp only;omega,by simp only;omega⟩ fb40.out fa40.out (by decide)) fun x10 w10 hE G10=>?_
 refine mV7 hE ?_ B15 B14 B9 HX RF0 RG0 RS0;clear B15 B14 B9 HX RF0 RG0 RS0;intro B15 B14 B9 HX RF0 RG0 RS0;have hs_w10:=hE.size;clear hE;replace b_B9:=bX3 B9;replace b_B14:=bX3 B14;replace b_B15:=bX3 B15;obtain ⟨⟨⟨xna,xnl,xnc⟩,⟨xda,xdl,xdc⟩⟩,e10⟩:=x10;obtain ⟨he,hu⟩:=G10.out;rw [DS.out.ex] at he hu;simp only at he hu;have XN:=Hi hu.1;have XD:=Hi hu.2;simp only at XN XD;clear hu G10;subst he;simp only [FE,FH.v,SH.v]
 go_upto_region 10 with fail
 refine nmA ?_;intro w11 hE B17 hz_w11 hr_w11;refine mV8 hE ?_ B15 B14 B9 HX RF0 RG0 RS0 XN;clear B15 B14 B9 HX RF0 RG0 RS0 XN;intro B15 B14 B9 HX RF0 RG0 RS0 XN;replace XD:=mV hE XD;have hs_w11:=hE.size;clear hE;replace b_B9:=bX3 B9;replace b_B14:=bX3 B14;replace b_B15:=bX3 B15;replace b_B17:=bX3 B17
 go_wp2_with fail
 refine cM (fV ⟨⟨ha,hn,hc⟩,⟨some ⟨b6,0,none⟩,1,1⟩⟩ h [1] 40 _ RG0.out ⟨by simp only;omega,by show 1≤5;decide⟩ DS.out.fh one40.out (by decide)) fun x12 w12 hE G12=>?_
 refine mV8 hE ?_ B17 B15 B14 B9 HX RF0 RG0 RS0;clear B17 B15 B14 B9 HX RF0 RG0 RS0;intro B17 B15 B14 B9 HX RF0 RG0 RS0;refine mV2 hE ?_ XN XD;clear XN XD;intro XN XD;have hs_w12:=hE.size;clear hE;replace b_B9:=bX3 B9;replace b_B14:=bX3 B14;replace b_B15:=bX3 B15;replace b_B17:=bX3 B17;obtain ⟨⟨⟨yna,ynl,ync⟩,⟨yda,ydl,ydc⟩⟩,e12⟩:=x12;obtain ⟨he,hu⟩:=G12.out;rw [DS.out.ey] at he hu;simp only at he hu;have YN:=Hi hu.1;have YD:=Hi hu.2;simp only at YN YD;clear hu G12;subst he;simp only [FE,FH.v,SH.v]
 go_upto_region 11 with fail
 refine nmA ?_;intro w13 hE B19 hz_w13 hr_w13;refine mV8 hE ?_ B17 B15 B14 B9 HX RF0 RG0 RS0;clear B17 B15 B14 B9 HX RF0 RG0 RS0;intro B17 B15 B14 B9 HX RF0 RG0 RS0;refine mV4 hE ?_ XN XD YN YD;clear XN XD YN YD;intro XN XD YN YD;have hs_w13:=hE.size;clear hE;replace b_B9:=bX3 B9;replace b_B14:=bX3 B14;replace b_B15:=bX3 B15;replace b_B17:=bX3 B17;replace b_B19:=bX3 B19
 go_wp2_with fail
 refine cM (fV ⟨⟨sa,sn,sc⟩,⟨ra,rn,rc⟩⟩ (ag b h) (ag a [1]) 40 _ RS0.out ⟨by simp only;omega,by simp only;omega⟩ DS.out.fs DS.out.ft (by decide)) fun x14 w14 hE G14=>?_
 refine mV8 hE ?_ B19 B17 B15 B14 B9 HX RF0 RG0;clear B19 B17 B15 B14 B9 HX RF0 RG0;intro B19 B17 B15 B14 B9 HX RF0 RG0;refine mV5 hE ?_ RS0 XN XD YN YD;clear RS0 XN XD YN YD;intro RS0 XN XD YN YD;have hs_w14:=hE.size;clear hE;replace b_B9:=bX3 B9;replace b_B14:=bX3 B14;replace b_B15:=bX3 B15;replace b_B17:=bX3 B17;replace b_B19:=bX3 B19;obtain ⟨⟨⟨zna,znl,znc⟩,⟨zda,zdl,zdc⟩⟩,e14⟩:=x14;obtain ⟨he,hu⟩:=G14.out;rw [DS.out.ez] at he hu;simp only at he hu;have ZN:=Hi hu.1;have ZD:=Hi hu.2;simp only at ZN ZD;clear hu G14;subst he;clear RF0;clear RG0;clear RS0;simp only [FE,FH.v,SH.v];have hyl:=YD.out.len;simp only at hyl;have hyb:((ydl:Int) == 0)=false:=by
  rw [nXr];intro e;have:yd.length=0:=by omega
  exact DS.out.ne (nXi.1 this)
 clear hyl
 go_upto_region 12 with fail
 refine nmA ?_;intro w15 hE B21 hz_w15 hr_w15;refine mV8 hE ?_ B19 B17 B15 B14 B9 HX XN XD;clear B19 B17 B15 B14 B9 HX XN XD;intro B19 B17 B15 B14 B9 HX XN XD;refine mV4 hE ?_ YN YD ZN ZD;clear YN YD ZN ZD;intro YN YD ZN ZD;have hs_w15:=hE.size;clear hE;replace b_B9:=bX3 B9;replace b_B14:=bX3 B14;replace b_B15:=bX3 B15;replace b_B17:=bX3 B17;replace b_B19:=bX3 B19;replace b_B21:=bX3 B21
 (try clear b_B9);clear B9
 (try clear b_B14);clear B14
 (try clear b_B15);clear B15
 go_upto_region 14 with fail
 have hxl:=XD.out.len;simp only at hxl;have hxl9:xdl≤9:=by have:=DS.out.lx;omega
 clear hxl;have KP:Hid ((xdl+1)*(1500000 / 3)≤25000000):=Hi (nXe (nXg _ (show xdl+1≤10 by omega)) (by decide));have Z1:Hid (Sz 1 (((-1:Int):Rat))):=Hi (Sz.int (by decide));have Z2:Hid (Sz 1 (((1:Int):Rat))):=Hi (Sz.int (by decide));have ZA:Hid (Sz 1 (-1:Rat)):=Hi (Sz.int (z:=-1) (by decide));have ZB:Hid (Sz 1 (1:Rat)):=Hi (Sz.int (z:=1) (by decide));have EL:Hid (loV ((-1:Int):Rat) ((1:Int):Rat)=-1):=Hi (D7 (by decide));have EM:Hid (hiV ((-1:Int):Rat) ((1:Int):Rat)=1):=Hi (Ec (by decide));have ZX:Hid (SzL 40000000 xd):=Hi (DS.out.fx.sz.mono (by decide));have EV:Hid (∀ k,k≤xd.length→Sz 40000000 (evV (xd.drop k) (-1))):=Hi (fun k _=>(oO (DS.out.fx.drop k) (x:=-1) (T:=1) (Sz.int (z:=-1) (by decide)) (by decide) (by rw [nXy];have:=DS.out.lx;omega) (by decide) (by decide)).mono (by decide));refine bU [(9,8)] _ (by simp only [jW,nG,List.push_toArray,List.cons_append,List.nil_append];exact rfl) (by intro c a d v w h;cases d <;> exact h) 9 (fun opIx=>match opIx with
  | 2=>.spec RH default RH.v (fun s w'=>ay w' s (((-1:Int):Rat)))
  | 3=>.spec RH default RH.v (fun s w'=>ay w' s (((1:Int):Rat)))
  | 4=>.spec (RH×RH) (default) (IvV) (fun x w'=>IvD x (-1) 1 w')
  | 5=>.spec Unit () (fun _=>.tuple #[.bool true,.int .i64 0]) (fun _ _=>True)
  | _=>.quiet) (fun|4=>[2,3]|5=>[4]|_=>[]) (by kernel_rfl) (by kernel_rfl) (by kernel_rfl) (fun w0 he0 hz0 hc0 hf0=>?_)
 replace he0:=Hi he0;simp only [pT];refine qQ ?_;refine wps he0.out rfl rfl (fun w1 hW hG=>?_) fun x40=>?_
 ·exact spc [.int .i64 (-1)] Tryz.func18 (aX (-1) _ (by decide) (by decide))
 refine qZ ?_;refine wps he0.out rfl rfl (fun w1 hW hG=>?_) fun x41=>?_
 ·exact spc [.int .i64 1] Tryz.func18 (aX 1 _ (by decide) (by decide))
 refine qZ ?_;refine wps he0.out rfl rfl (fun w1 hW hG=>?_) fun x42=>?_
 ·have g40:=(hG 2 (by decide):aD _ _).get fun _ e g=>g.ext e
  have g41:=(hG 3 (by decide):aD _ _).get fun _ e g=>g.ext e
  exact spc [x40.v,x41.v] Tryz.func23 ((by have h:=pV x40 x41 _ _ _ (g40.raw Z1.out (by decide)) (g41.raw Z2.out (by decide));rw [EL.out,EM.out] at h;exact h))
 refine qZ ?_;refine wps he0.out rfl rfl (fun w1 hW hG=>?_) fun x43=>?_
 ·have g42:=(hG 4 (by decide):aD _ _).get fun _ e g=>g.ext e
  exact spc [.slice xda xdl xdc,IvV x42] Tryz.func22 ((by have h:=mW xda xdl xdc xd 1500000 x42.1 x42.2 (-1) 1 1 _ ((XD.out.ext hW).raw ZX.out (by decide)) (by omega) DS.out.kx (by decide) KP.out DS.out.kq (g42.1.raw ZA.out (by decide)) (g42.2.raw ZB.out (by decide)) ZA.out ZB.out (by decide) ZX.out EV.out;rw [DS.out.ck] at h;exact h))
 refine qZ ?_;refine aq ?_;intro w16 hI;have hE:=he0.out.trans hI.ext;have G40:=gT (hI.facts 2);have G41:=gT (hI.facts 3);have G42:=gT (hI.facts 4);clear hI he0 hz0 hc0 hf0;refine mV8 hE ?_ B21 B19 B17 HX XN XD YN YD;clear B21 B19 B17 HX XN XD YN YD;intro B21 B19 B17 HX XN XD YN YD;refine mV2 hE ?_ ZN ZD;clear ZN ZD;intro ZN ZD;have hs_w16:=hE.size;clear hE;replace b_B17:=bX3 B17;replace b_B19:=bX3 B19;replace b_B21:=bX3 B21;simp only [pD];clear G42;clear G40;clear G41
 go_upto_region 15 with fail
 refine wpG 23 (fun opIx=>match opIx with
  | 6=>.spec (SH) (default) (SH.v) (fun x w'=>aJ w' x (ag xd yd))
  | 7=>.spec (SH) (default) (SH.v) (fun x w'=>aJ w' x (ag zn (ag xd yd)))
  | 14=>.spec (SH) (default) (SH.v) (fun x w'=>aJ w' x (ag xn yd))
  | 19=>.spec (SH) (default) (SH.v) (fun x w'=>aJ w' x (ag yn xd))
  | 20=>.spec (SH) (default) (SH.v) (fun x w'=>aJ w' x (aS (ag xn yd) (ag yn xd)))
  | 21=>.spec (SH) (default) (SH.v) (fun x w'=>aJ w' x (ag zd (aS (ag xn yd) (ag yn xd))))
  | 22=>.spec (SH) (default) (SH.v) (fun x w'=>aJ w' x ([]:List Rat))
  | _=>.quiet) (fun|7=>[6]|20=>[14,19]|21=>[20]|22=>[7,21]|_=>[]) fun w0 he0 hz0 hc0 hf0=>?_
 refine wps he0.out rfl rfl (fun w1 hW hG=>?_) fun x50=>?_
 ·exact spc [.slice xda xdl xdc,.slice yda ydl ydc] Tryz.func25 (i4 ⟨xda,xdl,xdc⟩ ⟨yda,ydl,ydc⟩ _ _ 13000 18 18 _ (XD.out.ext hW) (YD.out.ext hW) (nXe DS.out.lx (by decide)) DS.out.hy.2 (by decide) (by decide) (DS.out.fx.sz.mono (by decide)) DS.out.hy.1.sz (by decide) (by decide))
 refine qZ ?_;refine wps he0.out rfl rfl (fun w1 hW hG=>?_) fun x51=>?_
 ·have g50:=(hG 6 (by decide):aD _ _).get fun _ e g=>g.ext e
  exact spc [.slice zna znl znc,x50.v] Tryz.func25 (i4 ⟨zna,znl,znc⟩ x50 _ _ 26001 18 36 _ (ZN.out.ext hW) g50 DS.out.gz.2 DZ.out.l1 (by decide) (by decide) (DS.out.gz.1.sz.mono (by decide)) DZ.out.a1 (by decide) (by decide))
 refine qZ ?_;refine wps he0.out rfl rfl (fun w1 hW hG=>?_) fun x52=>?_
 ·exact spc [.slice xna xnl xnc,.slice yda ydl ydc] Tryz.func25 (i4 ⟨xna,xnl,xnc⟩ ⟨yda,ydl,ydc⟩ _ _ 13000 18 18 _ (XN.out.ext hW) (YD.out.ext hW) DS.out.gx.2 DS.out.hy.2 (by decide) (by decide) DS.out.gx.1.sz DS.out.hy.1.sz (by decide) (by decide))
 refine qZ ?_;refine wps he0.out rfl rfl (fun w1 hW hG=>?_) fun x53=>?_
 ·exact spc [.slice yna ynl ync,.slice xda xdl xdc] Tryz.func25 (i4 ⟨yna,ynl,ync⟩ ⟨xda,xdl,xdc⟩ _ _ 13000 18 18 _ (YN.out.ext hW) (XD.out.ext hW) DS.out.gy.2 (nXe DS.out.lx (by decide)) (by decide) (by decide) DS.out.gy.1.sz (DS.out.fx.sz.mono (by decide)) (by decide) (by decide))
 refine qZ ?_;refine wps he0.out rfl rfl (fun w1 hW hG=>?_) fun x54=>?_
 ·have g52:=(hG 14 (by decide):aD _ _).get fun _ e g=>g.ext e
  have g53:=(hG 19 (by decide):aD _ _).get fun _ e g=>g.ext e
  exact spc [x52.v,x53.v] Tryz.func26 (Ac x52 x53 _ _ 26001 _ g52 g53 (nXe DZ.out.l3 (by decide)) (nXe DZ.out.l4 (by decide)) DZ.out.a3 DZ.out.a4 (by decide))
 refine qZ ?_;refine wps he0.out rfl rfl (fun w1 hW hG=>?_) fun x55=>?_
 ·have g54:=(hG 20 (by decide):aD _ _).get fun _ e g=>g.ext e
  exact spc [.slice zda zdl zdc,x54.v] Tryz.func25 (i4 ⟨zda,zdl,zdc⟩ x54 _ _ 52003 18 36 _ (ZD.out.ext hW) g54 DS.out.hz.2 DZ.out.l5 (by decide) (by decide) (DS.out.hz.1.sz.mono (by decide)) DZ.out.a5 (by decide) (by decide))
 refine qZ ?_;refine wps he0.out rfl rfl (fun w1 hW hG=>?_) fun x56=>?_
 ·have g51:=(hG 7 (by decide):aD _ _).get fun _ e g=>g.ext e
  have g55:=(hG 21 (by decide):aD _ _).get fun _ e g=>g.ext e
  exact spc [x51.v,x55.v] Tryz.func24 ((by have h:=ye x51 x55 _ _ 65004 _ g51 g55 (nXe DZ.out.l2 (by decide)) (nXe DZ.out.l6 (by decide)) (DZ.out.a2.mono (by decide)) DZ.out.a6 (by decide);rw [DS.out.nil] at h;exact h))
 refine qZ ?_;refine aq ?_;intro w17 hI;have hE:=he0.out.trans hI.ext;have G50:=gT (hI.facts 6);have G51:=gT (hI.facts 7);have G52:=gT (hI.facts 14);have G53:=gT (hI.facts 19);have G54:=gT (hI.facts 20);have G55:=gT (hI.facts 21);have G56:=gT (hI.facts 22);clear hI he0 hz0 hc0 hf0;refine mV8 hE ?_ B21 B19 B17 HX ZN XN YD YN;clear B21 B19 B17 HX ZN XN YD YN;intro B21 B19 B17 HX ZN XN YD YN;refine mV2 hE ?_ XD ZD;clear XD ZD;intro XD ZD;have hs_w17:=hE.size;clear hE;replace b_B17:=bX3 B17;replace b_B19:=bX3 B19;replace b_B21:=bX3 B21;simp only [pD];obtain ⟨ga,gn,gc⟩:=x56;have hgn:gn=0:=G56.out.len.symm;subst hgn;clear G50 G51 G52 G53 G54 G55 G56;clear XN;clear XD;clear ZN;clear ZD
 (try clear b_B17);clear B17
 (try clear b_B21);clear B21
 go_upto_region 16 with fail
 have ZM:Hid (Sz 1 (((m:Nat):Int):Rat)):=Hi (Sz.int (by rw [nYg];unfold W32;omega));have ZS:Hid (SzL 13002 (aK yd (((m:Nat):Int):Rat))):=Hi (by unfold aK;exact ((DS.out.hy.1.sz.scale ZM.out).mono (by decide)).tz);have hynl:ynl≤18:=by have h1:=YN.out.len;have h2:=DS.out.gy.2;simp only at h1;omega
 have hydl:ydl≤18:=by have h1:=YD.out.len;have h2:=DS.out.hy.2;simp only at h1;omega
 have ESm:Hid (decide (tz yn=tz (aK yd (((m:Nat):Int):Rat)))=true):=Hi (decide_eq_true DS.out.same);have SLe:Hid ((aK yd (((m:Nat):Int):Rat)).length≤18):=Hi (by unfold aK;exact nXe (af _) (by rw [nXk];exact DS.out.hy.2));refine wpG 22 (fun opIx=>match opIx with
  | 0=>.spec Unit () (fun _=>.bool true) (fun _ _=>True)
  | 19=>.spec RH default RH.v (fun s w'=>ay w' s ((((m:Nat):Int):Rat)))
  | 20=>.spec (SH) (default) (SH.v) (fun x w'=>aJ w' x (aK yd (((m:Nat):Int):Rat)))
  | 21=>.spec Unit () (fun _=>.bool true) (fun _ _=>True)
  | _=>.quiet) (fun|20=>[19]|21=>[20]|_=>[]) fun w0 he0 hz0 hc0 hf0=>?_
 refine wps he0.out rfl rfl (fun w1 hW hG=>?_) fun x60=>?_
 ·exact spc [] Tryz.func19 (iE _)
 refine qZ ?_;refine wps he0.out rfl rfl (fun w1 hW hG=>?_) fun x61=>?_
 ·exact spc [.int .i64 (m:Nat)] Tryz.func18 (aX (m:Nat) _ (by omega) (by omega))
 refine qZ ?_;refine wps he0.out rfl rfl (fun w1 hW hG=>?_) fun x62=>?_
 ·have g61:=(hG 19 (by decide):aD _ _).get fun _ e g=>g.ext e
  exact spc [.slice yda ydl ydc,x61.v] Tryz.func28 ((eB yda ydl ydc yd x61 _ _ ((YD.out.ext hW).raw DS.out.hy.1.sz (by decide)) (g61.raw ZM.out (by decide)) (by omega) (DS.out.hy.1.sz.mono (by decide)) (ZM.out.mono (by decide))).weak (fun _ _ _ h=>h.can))
 refine qZ ?_;refine wps he0.out rfl rfl (fun w1 hW hG=>?_) fun x63=>?_
 ·have g62:=(hG 20 (by decide):aD _ _).get fun _ e g=>g.ext e
  exact spc [.slice yna ynl ync,x62.v] Tryz.func27 ((by have h:=uj yna x62.a ynl ync x62.n x62.c yn (aK yd (((m:Nat):Int):Rat)) _ ((YN.out.ext hW).raw DS.out.gy.1.sz (by decide)) (g62.raw ZS.out (by decide)) (by omega) (by have h1:=g62.len;have h2:=SLe.out;omega);rw [ESm.out] at h;exact h))
 refine qZ ?_;refine aq ?_;intro w18 hI;have hE:=he0.out.trans hI.ext;have G61:=gT (hI.facts 19);have G62:=gT (hI.facts 20);clear hI he0 hz0 hc0 hf0;refine mV4 hE ?_ B19 HX YN YD;clear B19 HX YN YD;intro B19 HX YN YD;have hs_w18:=hE.size;clear hE;replace b_B19:=bX3 B19;simp only [pD];go_wp2
 go_ret
 exact ⟨(),rfl,HX.out,trivial⟩
end Go.Proofs.YtohahgiidooijaaGreat
/- What all joins of this seat share. -/
namespace Go.Proofs.YtohahgiidooijaaGreat
open Go.ChangeShapes Go.WideShapes Go.ChangeAt Go.RowKit Go.Front Go.Joins
theorem own:ownKnob Tryz.prog.godebug=none:=by kernel_rfl
theorem nm:laidOutB Tryz.prog=true:=by kernel_rfl
theorem xO{n:Int}(h:(Lit.int .i64 n).wf=true):-9223372036854775808≤n∧n≤9223372036854775807:=by
 simp [Lit.wf] at h;exact ⟨h.1,h.2⟩
theorem xV{n:Int}(h:(Lit.int .u8 n).wf=true):0≤n∧n≤255:=by
 simp [Lit.wf] at h;exact ⟨h.1,h.2⟩
theorem mX{H:Type}{enc:TypeId×Value→H}{W:World}{a0:Option Addr}{len0 cap0:Nat}{d:DataW H}{p:List MemPlace}(h0:DataW.Trod enc Tryz.prog W 0 (fun _=>true) true 25 (.slice a0 len0 cap0) d p) :
  ∃ xs:List Int,cx W a0 xs∧InR xs∧xs.length=len0∧len0≤9223372036854775807∧len0≤cap0∧cap0≤9223372036854775807:=by
 obtain ⟨fuel,hf⟩:=h0;rcases open_ints Tryz.underlying25 Tryz.underlying3 (by kernel_rfl) hf with ⟨hcs,_⟩|⟨x,l,c,zs,hcs,_,hl,hm,hz,_,hcell,hwz⟩
 ·simp [Value.cells] at hcs;obtain ⟨rfl,rfl,rfl⟩:=hcs;exact ⟨[],Or.inl rfl,fun x hx=>by simp at hx,rfl,by decide,by decide,by decide⟩
 ·simp [Value.cells] at hcs;obtain ⟨rfl,rfl,rfl⟩:=hcs;simp only [maxLen] at hm;have hz':zs.length=cap0:=by simpa using hz
  refine ⟨zs.take len0,?_,fun x hx=>xO (hwz x (List.mem_of_mem_take hx)),by simp;omega,by omega,hl,by omega⟩;by_cases hp:0<zs.length
  ·obtain ⟨b,off,rfl,hc⟩:=ints_at hcell hp;refine Or.inr ⟨b,off,rfl,fun k hk=>?_⟩;simp only [nXj] at hk;rw [hc k (by omega)];simp [show k<len0 by omega]
  ·left
   have:zs=[]:=nXi.1 (by omega);rw [this];simp
end Go.Proofs.YtohahgiidooijaaGreat
