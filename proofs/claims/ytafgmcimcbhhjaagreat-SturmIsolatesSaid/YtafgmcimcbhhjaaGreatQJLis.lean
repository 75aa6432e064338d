import Derived.Test.YtafgmcimcbhhjaaGreatQJJnR
set_option linter.unusedVariables false
namespace Go.Proofs.YtafgmcimcbhhjaaGreat
open Go.RowKit Go.Front Go.Num Stab Sg
attribute [local go_sem] XW.cell XW.frozen
attribute [local go_sem] yv yx
attribute [local irreducible] Go.Front.wpF
theorem jM(pa:Option Addr)(P pc:Nat)(p:List Rat)(s t:RH)(a b:Rat)(w:World)(h:cD w ⟨pa,P,pc⟩ p)(z:ScS p)(hs:aS w s a)(ht:aS w t b)(za:Sz 20000 a)(zb:Sz 20000 b)(hab:a≤b) :
  au 23 [.slice pa P pc,IvV (s,t)] w (fun _:Unit=>.tuple #[.int .i64 (xS p a b).1,.int .i64 (xS p a b).2]) (fun _ _=>True):=by
 have hP:P≤12:=by have h1:=h.len;have h2:=z.ln;simp only at h1;omega
 by_cases h0:tz p=[]
 ·rw [rt h0];exact pI pa P pc p (.int .i64 0) s t w h zo h0
 ·have hR:=sr pa P pc p 1100000 s t a b 20000 w h zo h0 z.tz dZ zo (z.sqft h0) hs ht za zb dZ;rw [AN h0,lE hab,lF hab] at hR;rw [ru h0];exact hR
structure CW (p:List Rat) (lo hi wd a b:Rat):Prop where
 lo:lo≤a
 ab:a≤b
 hi:b≤hi
 wd:b-a≤wd
 ct:xS p a b=(1,0)
 za:Sz 20000 a
 zb:Sz 20000 b
theorem CW.ins{p:List Rat}{lo hi wd a b:Rat}(h:CW p lo hi wd a b)(hle:lo≤hi):(decide (loV lo hi≤a∧a≤hiV lo hi) && decide (loV lo hi≤b∧b≤hiV lo hi))=true:=by
 have h1:=h.lo;have h2:=h.ab;have h3:=h.hi;rw [lE hle,lF hle,decide_eq_true (show lo≤a∧a≤hi from ⟨h1,by grind⟩),decide_eq_true (show lo≤b∧b≤hi from ⟨by grind,h3⟩)];rfl
theorem Dm{a b:Rat}(h:b≤a):decide (a<b)=false:=decide_eq_false (by grind)
theorem CW.nar{p:List Rat}{lo hi wd a b:Rat}(h:CW p lo hi wd a b):decide (wd<b-a)=false:=decide_eq_false (by have:=h.wd;grind)
theorem Bb.j{p:List Rat}{lo hi wd:Rat}{N:Nat}{qs:List Rat}(h:Bb p lo hi wd N qs){j:Nat}(hj:j<N):CW p lo hi wd (qs.getD (2*j) 0) (qs.getD (2*j+1) 0):=by
 obtain ⟨h1,h2,h3,h4,h5⟩:=h.at' j hj;have h0:tz p≠[]:=fun k=>by have:=h.len;rw [rt k] at this;simp only at this;omega
 exact ⟨h1,h2,h3,h4,by rw [ru h0,h5],h.sz _ zo,h.sz _ zo⟩
set_option maxRecDepth 8000 in
set_option maxHeartbeats 16000000 in
theorem r9(lo:Option Addr)(lc:Nat)(ls:List Int)(pa:Option Addr)(P pc:Nat)(re:List RH)(za zb zu zr:Int)(w:World)
 (l0:eG w lo ls)(l1:InR ls)(l2:ls.length≤9223372036854775807)(l3:ls.length≤lc)(l4:lc≤9223372036854775807)(hp:RS w ⟨pa,P,pc⟩ re)(ip:∀ r ∈ re,nr w r)
 (a1:-9223372036854775808≤za)(a2:za≤9223372036854775807)(b1:-9223372036854775808≤zb)(b2:zb≤9223372036854775807)(u1:0≤zu)(u2:zu≤255)(r1:-9223372036854775808≤zr)(r2:zr≤9223372036854775807) :
  au 5 [.slice lo ls.length lc,.slice pa P pc,.int .i64 za,.int .i64 zb,.int .u8 zu,.int .i64 zr] w (fun _:Unit=>.bool true) (fun _ _=>True):=by
 have HX:=Hi (Ext.refl w);have HRo:Hid (∀ w1,Ext w w1→au 29 [.slice lo ls.length lc] w1 RT2 (fun x w'=>(∃ e,LIn w' x.1.1 x.2.1 w1.heap.size e)∧bw w' x.1.2 x.2.2∧zq x.2.1 x.2.2)):=Hi (fun w1 hE=>rS lo lc ls w1 (l0.ext hE) l1 l2 l3 l4);obtain ⟨n0,e0⟩:∃ n,n=ls.length:=⟨_,rfl⟩;rw [←e0] at HRo ⊢;have HP:=Hi hp;have IP:=Hi ip;obtain ⟨k,hk⟩:∃ k:Nat,zu.tmod 12=(k:Nat)∧k<12:=⟨(zu.tmod 12).toNat,by rw [Int.tmod_eq_emod_of_nonneg u1];omega,by rw [Int.tmod_eq_emod_of_nonneg u1];omega⟩;obtain ⟨hk1,hk2⟩:=hk;clear e0 hp ip l0 l1 l2 l3 l4;unfold au;go_enter Tryz.func5,Tryz.ntmps5
 go_wp2_with fail
 refine cM (mE pa P pc re _ (HP.out.ext HX.out)) fun x29 w29 hE G29=>?_
 replace HX:=hE.tr HX;have hs_w29:=hE.size;cases x29
 case false =>
  go_wp2_with fail
  refine cM (gN _) fun x31 w31 hE _=>?_
  replace HX:=hE.tr HX;have hs_w31:=hE.size;go_wp2
  go_ret
  exact ⟨(),rfl,HX.out,trivial⟩
 obtain ⟨hp8,sp⟩:=G29.out.1 rfl;obtain ⟨p2,hp2,zp2⟩:=wE HP.out IP.out sp dZ dZ;have hpl:=hp2.len;simp only at hpl;have HP2:=Hi hp2;have HZ2:Hid (ScS p2):=Hi (ScS.raw zp2 zo);clear hp2 zp2 hpl hp8 sp G29 HP IP
 go_wp2_with fail
 refine cM (HRo.out _ HX.out) fun x34 w34 hE G34=>?_
 replace HX:=hE.tr HX;have hs_w34:=hE.size;obtain ⟨⟨⟨xa,xn,xc⟩,xy⟩,⟨qr,qd⟩⟩:=x34;obtain ⟨⟨Be,e1⟩,-,e2⟩:=G34.out;simp only at e1 e2;have GQ:Hid (cD w34 ⟨xa,xn,xc⟩ qr):=Hi (e1.can.raw (zq.sz e2) dZ);have GZ:=Hi (zL e2);clear e1 e2 G34 HRo
 go_wp2_with fail
 refine cM (BQ za zb _ a1 a2 b1 b2) fun x39 w39 hE G39=>?_
 refine mV2 hE ?_ HX GQ;clear HX GQ;intro HX GQ;have hs_w39:=hE.size;obtain ⟨⟨en,ea,el,ec,eb,em,ed⟩,⟨fn,fa,fl,fc,fb,fm,fd⟩⟩:=x39;obtain ⟨L,hL⟩:∃ k,k=loV (oL za) (oL zb):=⟨_,rfl⟩;obtain ⟨H,hH⟩:∃ k,k=hiV (oL za) (oL zb):=⟨_,rfl⟩;have GE:=Hi G39.out.1;have GF:=Hi G39.out.2;clear G39;simp only at GE GF;rw [←hL] at GE;rw [←hH] at GF;have ZL:Hid (Sz 1 L):=Hi (by rw [hL];exact BZ (iB _) (iB _));have ZH:Hid (Sz 1 H):=Hi (by rw [hH];exact Ce (iB _) (iB _));have HLE:Hid (L≤H):=Hi (by rw [hL,hH];exact xg _ _);clear hL hH
 go_upto_region 5 with fail
 refine nmA ?_;intro w40 hE B15 hz_w40 hr_w40;refine mV4 hE ?_ HX GQ GE GF;clear HX GQ GE GF;intro HX GQ GE GF;have hs_w40:=hE.size;replace b_B15:=bX3 B15;obtain ⟨b15,hb15⟩:∃ k,k=w39.heap.size:=⟨_,rfl⟩;rw [←hb15] at B15 ⊢;clear hb15 b_B15;have HX0:=HX;have GQ0:=GQ;have GE0:=GE;have GF0:=GF;have B150:=B15;have HP20:=Hi (HP2.out.ext HX.out);clear HX;clear GQ;clear GE;clear GF;clear B15 HP2;go_wp2
 go_loopg [13,17] 2 (fun g yp jp wr=>∃ (j:Nat) (y:SH) (q:List Rat),j+g=2∧jp=.int .i64 (j:Nat)∧yp=y.v∧Ext w wr∧Ext w40 wr∧cD wr y q∧ScS q)
 case atStart=>exact ⟨0,⟨xa,xn,xc⟩,qr,zo,rfl,rfl,HX0.out,Ext.refl _,GQ0.out,GZ.out⟩
 case round =>
  obtain ⟨j,⟨ya,yn,yc⟩,q,hj,rfl,rfl,g1,g2,g3,g4⟩:=hrel;clear HX0 GQ0 GZ;have HX:=Hi g1;have HE:=Hi g2;have GQ:=Hi g3;have GZ:=Hi g4;have GE:=Hi (GE0.out.ext g2);have GF:=Hi (GF0.out.ext g2);have B15:=Hi (g2.block B150.out);clear g1 g2 g3 g4;simp only [SH.v];replace b_B15:=bX3 B15;by_cases h0:gk=0
  case pos =>
   subst h0;obtain rfl:j=2:=by omega
   by_cases hz1:zr<0
   case pos =>
    go_wp2_with fail
    refine cM (qg ya yn yc ⟨en,ea,el,ec,eb,em,ed⟩ ⟨fn,fa,fl,fc,fb,fm,fd⟩ zr _ (Or.inl hz1)) fun x132 w132 hE _=>?_
    refine mV6 hE ?_ HX HE GQ GE GF B15;clear HX HE GQ GE GF B15;intro HX HE GQ GE GF B15;have hs_w132:=hE.size;replace b_B15:=bX3 B15;clear hz1
    go_wp2_with fail
    refine cM (gN _) fun x137 w137 hE _=>?_
    refine mV6 hE ?_ HX HE GQ GE GF B15;clear HX HE GQ GE GF B15;intro HX HE GQ GE GF B15;have hs_w137:=hE.size;replace b_B15:=bX3 B15;go_wp2
    go_ret
    exact ⟨(),rfl,HX.out,trivial⟩
   by_cases hz2:256<zr
   case pos =>
    go_wp2_with fail
    refine cM (qg ya yn yc ⟨en,ea,el,ec,eb,em,ed⟩ ⟨fn,fa,fl,fc,fb,fm,fd⟩ zr _ (Or.inr hz2)) fun x132 w132 hE _=>?_
    refine mV6 hE ?_ HX HE GQ GE GF B15;clear HX HE GQ GE GF B15;intro HX HE GQ GE GF B15;have hs_w132:=hE.size;replace b_B15:=bX3 B15;clear hz1 hz2
    go_wp2_with fail
    refine cM (gN _) fun x137 w137 hE _=>?_
    refine mV6 hE ?_ HX HE GQ GE GF B15;clear HX HE GQ GE GF B15;intro HX HE GQ GE GF B15;have hs_w137:=hE.size;replace b_B15:=bX3 B15;go_wp2
    go_ret
    exact ⟨(),rfl,HX.out,trivial⟩
   go_wp2_with fail
   refine cM (gN _) fun x137 w137 hE _=>?_
   refine mV6 hE ?_ HX HE GQ GE GF B15;clear HX HE GQ GE GF B15;intro HX HE GQ GE GF B15;have hs_w137:=hE.size;replace b_B15:=bX3 B15;go_wp2
   go_ret
   exact ⟨(),rfl,HX.out,trivial⟩
  obtain ⟨g1,rfl⟩:∃ g1,gk=g1+1:=⟨gk-1,zo⟩;have hj2:(j:Int)<2:=zo;obtain ⟨c1,hc1⟩:∃ c,c=(xS q L H).1:=⟨_,rfl⟩;obtain ⟨c2,hc2⟩:∃ c,c=(xS q L H).2:=⟨_,rfl⟩;have HC1:=Hi hc1;have HC2:=Hi hc2;have HCW:=Hi (jM ya yn yc q ⟨en,ea,el,ec,eb,em,ed⟩ ⟨fn,fa,fl,fc,fb,fm,fd⟩ L H);have HS1:Hid (∀ w',cD w' ⟨ya,yn,yc⟩ q→aB w' ⟨en,ea,el,ec,eb,em,ed⟩ L→aB w' ⟨fn,fa,fl,fc,fb,fm,fd⟩ H→au 32 [.slice ya yn yc,IvV (⟨en,ea,el,ec,eb,em,ed⟩,⟨fn,fa,fl,fc,fb,fm,fd⟩),.int .i64 (k:Nat)] w' (fun x:SH=>.tuple #[x.v,.int .i64 c2]) (fun x w'=>DJ w' x q L H (wd6 k))):=Hi (fun w' h1 h2 h3=>by rw [hc2];exact xv ya yn yc q ⟨en,ea,el,ec,eb,em,ed⟩ ⟨fn,fa,fl,fc,fb,fm,fd⟩ L H k w' h1 GZ.out (h2.raw ZL.out dZ) (h3.raw ZH.out dZ) ZL.out ZH.out HLE.out zo);have HS2:Hid (∀ w',cD w' ⟨ya,yn,yc⟩ q→aB w' ⟨en,ea,el,ec,eb,em,ed⟩ L→aB w' ⟨fn,fa,fl,fc,fb,fm,fd⟩ H→au 23 [.slice ya yn yc,IvV (⟨en,ea,el,ec,eb,em,ed⟩,⟨fn,fa,fl,fc,fb,fm,fd⟩)] w' (fun _:Unit=>.tuple #[.int .i64 c1,.int .i64 c2]) (fun _ _=>True)):=Hi (fun w' h1 h2 h3=>by rw [hc1,hc2];exact jM ya yn yc q ⟨en,ea,el,ec,eb,em,ed⟩ ⟨fn,fa,fl,fc,fb,fm,fd⟩ L H w' h1 GZ.out (h2.raw ZL.out dZ) (h3.raw ZH.out dZ) (ZL.out.mono dZ) (ZH.out.mono dZ) HLE.out);clear hc1 hc2 HC2 HCW h0
  go_wp2_with fail
  refine cM (HS1.out _ GQ.out GE.out GF.out) fun x51 w51 hE G51=>?_
  refine mV6 hE ?_ HX HE GQ GE GF B15;clear HX HE GQ GE GF B15;intro HX HE GQ GE GF B15;have hs_w51:=hE.size;replace b_B15:=bX3 B15;obtain ⟨ia,iN,ic⟩:=x51;obtain ⟨qs,hi1,hi2⟩:=G51.out;have GI:=Hi hi1;have HIQ:Hid (Bb q L H (wd6 k) iN qs):=Hi hi2;have hNm:iN≤9223372036854775807:=let ⟨_,h1,_⟩:=hi1;nXf h1.le h1.max;have hcN:c1=(iN:Int):=by rw [HC1.out];exact hi2.len.symm
  subst hcN;clear hi1 hi2 G51 HC1;simp only [SH.v]
  go_wp2_with fail
  refine cM (HS2.out _ GQ.out GE.out GF.out) fun x57 w57 hE _=>?_
  refine mV7 hE ?_ HX HE GQ GE GF B15 GI;clear HX HE GQ GE GF B15 GI;intro HX HE GQ GE GF B15 GI;have hs_w57:=hE.size;replace b_B15:=bX3 B15;clear HS1 HS2;have HX1:=HX;have HE1:=HE;have GQ1:=GQ;have GE1:=GE;have GF1:=GF;have GI1:=GI;have B151:=B15;clear HX;clear HE;clear GQ;clear GE;clear GF;clear GI;clear B15;go_wp2
  go_loopg [71] iN (fun g iv wi=>∃ i:Nat,i+g=iN∧iv=.int .i64 (i:Nat)∧Ext w57 wi)
  case atStart=>exact ⟨0,zo,rfl,Ext.refl _⟩
  case round =>
   obtain ⟨i,hi,rfl,g2⟩:=hrel;have HX:=Hi (HX1.out.trans g2);have HE:=Hi (HE1.out.trans g2);have HE7:=Hi g2;have GQ:=Hi (GQ1.out.ext g2);have GE:=Hi (GE1.out.ext g2);have GF:=Hi (GF1.out.ext g2);have GI:=Hi (GI1.out.ext g2);have B15:=Hi (g2.block B151.out);clear g2;replace b_B15:=bX3 B15;by_cases h0:gk=0
   case pos =>
    subst h0;obtain rfl:i=iN:=by omega
    have hin:¬ (i:Int)<i:=zo;go_wp2
    go_roundg g1
    case measure=>omega
    case rel=>exact ⟨j+1,⟨pa,P,pc⟩,p2,zo,by go_num,rfl,HX.out,HE.out,HP20.out.ext HE.out,HZ2.out⟩
   have hiN:i<iN:=zo;have hin:(i:Int)<iN:=zo;obtain ⟨Bk,off,r,t,eia,hBl,hIA,hr,ht⟩:=GI.out.at (k:=i) hiN;obtain ⟨q1,q2,q3,q4,q5,q6⟩:=hIA;obtain ⟨rn,ra,rl,rc,rb,rm,rd⟩:=r;obtain ⟨tn,ta,tl,tc,tb,tm,td⟩:=t;simp only at q1 q2 q3 q4 q5 q6;subst eia;have hJ:=HIQ.out.j hiN;obtain ⟨a,ha⟩:∃ a,a=qs.getD (2*i) 0:=⟨_,rfl⟩;obtain ⟨b,hb⟩:∃ b,b=qs.getD (2*i+1) 0:=⟨_,rfl⟩;have HAe:=Hi ha;rw [←ha] at hr hJ;rw [←hb] at ht hJ;have HR:=Hi hr;have HT:=Hi ht;have ZA:=Hi hJ.za;have ZB:=Hi hJ.zb;have HAB:=Hi hJ.ab;have HCT:=Hi hJ.ct;have HLO:=Hi (lE hJ.ab);have HHI:=Hi (lF hJ.ab);have HIN:=Hi (hJ.ins HLE.out);have HWD:Hid (hiV a b-loV a b=b-a):=Hi (by rw [lE hJ.ab,lF hJ.ab]);have HLW:=Hi hJ.nar;have ZW:Hid (Sz 10 (wd6 k)):=Hi (sF zo);have ZU:=Hi (sL (show k≤256 by omega));have Z1:Hid (Sz 1 ((1:Int):Rat)):=Hi (Sz.int dZ);have ZD:Hid (Sz 40001 (b-a)):=Hi ((hJ.zb.sub hJ.za).mono dZ);clear hr ht hJ ha hb h0
   go_upto_region 15 with fail
   refine nmA ?_;intro w75 hE B23 hz_w75 hr_w75;refine mV8 hE ?_ HX HE HE7 GQ GE GF GI B15;clear HX HE HE7 GQ GE GF GI B15;intro HX HE HE7 GQ GE GF GI B15;refine mV2 hE ?_ HR HT;clear HR HT;intro HR HT;have hs_w75:=hE.size;replace b_B15:=bX3 B15;replace b_B23:=bX3 B23
   go_wp2_with fail
   refine cM (jM ya yn yc q ⟨rn,ra,rl,rc,rb,rm,rd⟩ ⟨tn,ta,tl,tc,tb,tm,td⟩ a b _ GQ.out GZ.out (HR.out.raw ZA.out dZ) (HT.out.raw ZB.out dZ) ZA.out ZB.out HAB.out) fun x79 w79 hE _=>?_
   refine mV8 hE ?_ B23 HX HE HE7 GQ GE GF GI;clear B23 HX HE HE7 GQ GE GF GI;intro B23 HX HE HE7 GQ GE GF GI;refine mV3 hE ?_ B15 HR HT;clear B15 HR HT;intro B15 HR HT;have hs_w79:=hE.size;replace b_B15:=bX3 B15;replace b_B23:=bX3 B23;rw [HCT.out]
   go_upto_region 16 with fail
   by_cases i0:i=0
   case pos =>
    subst i0;refine ai 38 (fun opIx=>match opIx with
     | 9=>sU (.bool true)
     | 13=>sR (((1:Int):Rat))
     | 15=>sR (((2 ^ k:Nat):Rat))
     | 16=>sR (wd6 k)
     | 18=>sR ((b-a))
     | 19=>sU (.bool false)
     | _=>.quiet) (fun|16=>[13,15]|19=>[16,18]|_=>[]) kZ kZ (fun w0 he0 hz0 hc0 hf0=>?_)
    replace he0:=Hi he0;simp only [pT]
    repeat (first|(refine wpq fun K h=>?_;go_big_quiet_op;refine h _ ?_;clear h K)|(refine eZ rfl ?_;simp only [pS]))
    refine wps he0 (fun w1 hW hG=>?_) fun x60=>?_
    ·exact spc [IvV (⟨rn,ra,rl,rc,rb,rm,rd⟩,⟨tn,ta,tl,tc,tb,tm,td⟩),IvV (⟨en,ea,el,ec,eb,em,ed⟩,⟨fn,fa,fl,fc,fb,fm,fd⟩)] Tryz.func33 ((by have h:=n8 ⟨rn,ra,rl,rc,rb,rm,rd⟩ ⟨tn,ta,tl,tc,tb,tm,td⟩ ⟨en,ea,el,ec,eb,em,ed⟩ ⟨fn,fa,fl,fc,fb,fm,fd⟩ a b L H 1 _ ((HR.out.ext hW).raw ZA.out dZ) ((HT.out.ext hW).raw ZB.out dZ) ((GE.out.ext hW).raw ZL.out dZ) ((GF.out.ext hW).raw ZH.out dZ) ZL.out ZH.out dZ;rw [HIN.out] at h;exact h))
    simp only [pS]
    repeat (first|(refine wpq fun K h=>?_;go_big_quiet_op;refine h _ ?_;clear h K)|(refine eZ rfl ?_;simp only [pS]))
    refine wps he0 (fun w1 hW hG=>?_) fun x61=>?_
    ·exact spc [.int .i64 1] Tryz.func36 (aO 1 _ dZ dZ)
    simp only [pS]
    repeat (first|(refine wpq fun K h=>?_;go_big_quiet_op;refine h _ ?_;clear h K)|(refine eZ rfl ?_;simp only [pS]))
    refine wps he0 (fun w1 hW hG=>?_) fun x62=>?_
    ·exact spc [.int .i64 (k:Nat)] Tryz.func37 (lQ k _ zo)
    simp only [pS]
    repeat (first|(refine wpq fun K h=>?_;go_big_quiet_op;refine h _ ?_;clear h K)|(refine eZ rfl ?_;simp only [pS]))
    refine wps he0 (fun w1 hW hG=>?_) fun x63=>?_
    ·have g61:=gS (hG 13 dZ);have g62:=gS (hG 15 dZ);exact spc [x61.v,x62.v] Tryz.func35 (eQ x61 x62 ((1:Int):Rat) ((2 ^ k:Nat):Rat) _ (g61.raw Z1.out dZ) (g62.raw ZU.out dZ))
    simp only [pS]
    repeat (first|(refine wpq fun K h=>?_;go_big_quiet_op;refine h _ ?_;clear h K)|(refine eZ rfl ?_;simp only [pS]))
    refine wps he0 (fun w1 hW hG=>?_) fun x64=>?_
    ·exact spc [IvV (⟨rn,ra,rl,rc,rb,rm,rd⟩,⟨tn,ta,tl,tc,tb,tm,td⟩)] Tryz.func38 ((by have h:=l8 ⟨rn,ra,rl,rc,rb,rm,rd⟩ ⟨tn,ta,tl,tc,tb,tm,td⟩ a b 20000 _ ((HR.out.ext hW).raw ZA.out dZ) ((HT.out.ext hW).raw ZB.out dZ) ZA.out ZB.out dZ;rw [HWD.out] at h;exact h))
    simp only [pS]
    repeat (first|(refine wpq fun K h=>?_;go_big_quiet_op;refine h _ ?_;clear h K)|(refine eZ rfl ?_;simp only [pS]))
    refine wps he0 (fun w1 hW hG=>?_) fun x65=>?_
    ·have g63:=gS (hG 16 dZ);have g64:=gS (hG 18 dZ);exact spc [x63.v,x64.v] Tryz.func34 ((by have h:=de x63 x64 (wd6 k) (b-a) _ (g63.raw ZW.out dZ) (g64.raw ZD.out dZ);rw [HLW.out] at h;exact h))
    simp only [pS]
    repeat (first|(refine wpq fun K h=>?_;go_big_quiet_op;refine h _ ?_;clear h K)|(refine eZ rfl ?_;simp only [pS]))
    refine aq ?_;intro w90 hI;have hE:=he0.out.trans hI.ext;have G61:=gT (hI.facts 13);have G62:=gT (hI.facts 15);have G63:=gT (hI.facts 16);have G64:=gT (hI.facts 18);clear hI he0 hz0 hc0 hf0;refine mV8 hE ?_ B23 HX HE HE7 GQ GE GF GI;clear B23 HX HE HE7 GQ GE GF GI;intro B23 HX HE HE7 GQ GE GF GI;refine mV3 hE ?_ B15 HR HT;clear B15 HR HT;intro B15 HR HT;have hs_w90:=hE.size;replace b_B15:=bX3 B15;replace b_B23:=bX3 B23;simp only [pD];go_wp2
    go_roundg (gk-1)
    case measure=>omega
    case rel=>exact ⟨0+1,zo,by go_num,HE7.out⟩
   obtain ⟨i1,hi1e⟩:∃ i1,i1+1=i:=⟨i-1,zo⟩;have hs1:(i:Int)-1=(i1:Int):=zo;have hi1N:i1<iN:=zo;have hin1:(i1:Int)<iN:=zo;have hij:decide ((0:Int)<(i:Int))=true:=decide_eq_true zo;have hij2:decide (0<i)=true:=decide_eq_true zo;obtain ⟨Bk2,off2,r2',t2',e2,hBl2,hIA2,hr2,ht2⟩:=GI.out.at (k:=i1) hi1N;obtain ⟨rfl,rfl⟩:Bk2=Bk∧off2=off:=by simp only [Option.some.injEq,Addr.mk.injEq] at e2;exact ⟨e2.1.symm,e2.2.1.symm⟩
   obtain ⟨p1,p2',p3,p4,p5,p6⟩:=hIA2;obtain ⟨un,ua,ul,uc,ub,um,ud⟩:=r2';obtain ⟨vn,va,vl,vc,vb,vm,vd⟩:=t2';simp only at p1 p2' p3 p4 p5 p6;have hJ2:=HIQ.out.j hi1N;have hls:=HIQ.out.srt i1 zo;rw [hi1e] at hls;obtain ⟨a',ha'⟩:∃ a,a=qs.getD (2*i1) 0:=⟨_,rfl⟩;obtain ⟨b',hb'⟩:∃ b,b=qs.getD (2*i1+1) 0:=⟨_,rfl⟩;rw [←ha'] at hr2 hJ2;rw [←hb'] at ht2 hJ2 hls;rw [←HAe.out] at hls;have HU:=Hi hr2;have HV:=Hi ht2;have ZA2:=Hi hJ2.za;have ZB2:=Hi hJ2.zb;have HLO2:=Hi (lE hJ2.ab);have HHI2:=Hi (lF hJ2.ab);have HLS:Hid (decide (a<b')=false):=Hi (Dm hls);clear hr2 ht2 hJ2 ha' hb' hls e2 i0 hi1e;refine ai 38 (fun opIx=>match opIx with
    | 9=>sU (.bool true)
    | 13=>sR (((1:Int):Rat))
    | 15=>sR (((2 ^ k:Nat):Rat))
    | 16=>sR (wd6 k)
    | 18=>sR ((b-a))
    | 19=>sU (.bool false)
    | 26=>.spec (RH×RH) (default) (IvV) (fun x w'=>IvC w' x a b)
    | 33=>.spec (RH×RH) (default) (IvV) (fun x w'=>IvC w' x a' b')
    | 35=>sU (.bool false)
    | _=>.quiet) (fun|27=>[26]|16=>[13,15]|19=>[16,18]|35=>[26,33]|_=>[]) kZ kZ (fun w0 he0 hz0 hc0 hf0=>?_)
   replace he0:=Hi he0;simp only [pT]
   repeat (refine wpq fun K h=>?_;go_big_quiet_op;refine h _ ?_;clear h K;(try simp only [hij,hij2]))
   refine wps he0 (fun w1 hW hG=>?_) fun x60=>?_
   ·exact spc [IvV (⟨rn,ra,rl,rc,rb,rm,rd⟩,⟨tn,ta,tl,tc,tb,tm,td⟩),IvV (⟨en,ea,el,ec,eb,em,ed⟩,⟨fn,fa,fl,fc,fb,fm,fd⟩)] Tryz.func33 ((by have h:=n8 ⟨rn,ra,rl,rc,rb,rm,rd⟩ ⟨tn,ta,tl,tc,tb,tm,td⟩ ⟨en,ea,el,ec,eb,em,ed⟩ ⟨fn,fa,fl,fc,fb,fm,fd⟩ a b L H 1 _ ((HR.out.ext hW).raw ZA.out dZ) ((HT.out.ext hW).raw ZB.out dZ) ((GE.out.ext hW).raw ZL.out dZ) ((GF.out.ext hW).raw ZH.out dZ) ZL.out ZH.out dZ;rw [HIN.out] at h;exact h))
   simp only [pS]
   repeat (refine wpq fun K h=>?_;go_big_quiet_op;refine h _ ?_;clear h K;(try simp only [hij,hij2]))
   refine wps he0 (fun w1 hW hG=>?_) fun x61=>?_
   ·exact spc [.int .i64 1] Tryz.func36 (aO 1 _ dZ dZ)
   simp only [pS]
   repeat (refine wpq fun K h=>?_;go_big_quiet_op;refine h _ ?_;clear h K;(try simp only [hij,hij2]))
   refine wps he0 (fun w1 hW hG=>?_) fun x62=>?_
   ·exact spc [.int .i64 (k:Nat)] Tryz.func37 (lQ k _ zo)
   simp only [pS]
   repeat (refine wpq fun K h=>?_;go_big_quiet_op;refine h _ ?_;clear h K;(try simp only [hij,hij2]))
   refine wps he0 (fun w1 hW hG=>?_) fun x63=>?_
   ·have g61:=gS (hG 13 dZ);have g62:=gS (hG 15 dZ);exact spc [x61.v,x62.v] Tryz.func35 (eQ x61 x62 ((1:Int):Rat) ((2 ^ k:Nat):Rat) _ (g61.raw Z1.out dZ) (g62.raw ZU.out dZ))
   simp only [pS]
   repeat (refine wpq fun K h=>?_;go_big_quiet_op;refine h _ ?_;clear h K;(try simp only [hij,hij2]))
   refine wps he0 (fun w1 hW hG=>?_) fun x64=>?_
   ·exact spc [IvV (⟨rn,ra,rl,rc,rb,rm,rd⟩,⟨tn,ta,tl,tc,tb,tm,td⟩)] Tryz.func38 ((by have h:=l8 ⟨rn,ra,rl,rc,rb,rm,rd⟩ ⟨tn,ta,tl,tc,tb,tm,td⟩ a b 20000 _ ((HR.out.ext hW).raw ZA.out dZ) ((HT.out.ext hW).raw ZB.out dZ) ZA.out ZB.out dZ;rw [HWD.out] at h;exact h))
   simp only [pS]
   repeat (refine wpq fun K h=>?_;go_big_quiet_op;refine h _ ?_;clear h K;(try simp only [hij,hij2]))
   refine wps he0 (fun w1 hW hG=>?_) fun x65=>?_
   ·have g63:=gS (hG 16 dZ);have g64:=gS (hG 18 dZ);exact spc [x63.v,x64.v] Tryz.func34 ((by have h:=de x63 x64 (wd6 k) (b-a) _ (g63.raw ZW.out dZ) (g64.raw ZD.out dZ);rw [HLW.out] at h;exact h))
   simp only [pS]
   repeat (refine wpq fun K h=>?_;go_big_quiet_op;refine h _ ?_;clear h K;(try simp only [hij,hij2]))
   refine wps he0 (fun w1 hW hG=>?_) fun x66=>?_
   ·exact spc [IvV (⟨rn,ra,rl,rc,rb,rm,rd⟩,⟨tn,ta,tl,tc,tb,tm,td⟩)] Tryz.func39 ((by have h:=dq ⟨rn,ra,rl,rc,rb,rm,rd⟩ ⟨tn,ta,tl,tc,tb,tm,td⟩ a b _ ((HR.out.ext hW).raw ZA.out dZ) ((HT.out.ext hW).raw ZB.out dZ);rw [HLO.out,HHI.out] at h;exact h))
   simp only [pS]
   repeat (refine wpq fun K h=>?_;go_big_quiet_op;refine h _ ?_;clear h K;(try simp only [hij,hij2]))
   refine wps he0 (fun w1 hW hG=>?_) fun x67=>?_
   ·exact spc [IvV (⟨un,ua,ul,uc,ub,um,ud⟩,⟨vn,va,vl,vc,vb,vm,vd⟩)] Tryz.func39 ((by have h:=dq ⟨un,ua,ul,uc,ub,um,ud⟩ ⟨vn,va,vl,vc,vb,vm,vd⟩ a' b' _ ((HU.out.ext hW).raw ZA2.out dZ) ((HV.out.ext hW).raw ZB2.out dZ);rw [HLO2.out,HHI2.out] at h;exact h))
   simp only [pS]
   repeat (refine wpq fun K h=>?_;go_big_quiet_op;refine h _ ?_;clear h K;(try simp only [hij,hij2]))
   refine wps he0 (fun w1 hW hG=>?_) fun x68=>?_
   ·have g66:=gS (hG 26 dZ);have g67:=gS (hG 33 dZ);exact spc [x66.1.v,x67.2.v] Tryz.func34 ((by have h:=de x66.1 x67.2 a b' _ (g66.1.raw ZA.out dZ) (g67.2.raw ZB2.out dZ);rw [HLS.out] at h;exact h))
   simp only [pS]
   repeat (refine wpq fun K h=>?_;go_big_quiet_op;refine h _ ?_;clear h K;(try simp only [hij,hij2]))
   refine aq ?_;intro w90 hI;have hE:=he0.out.trans hI.ext;have G61:=gT (hI.facts 13);have G62:=gT (hI.facts 15);have G63:=gT (hI.facts 16);have G64:=gT (hI.facts 18);have G66:=gT (hI.facts 26);have G67:=gT (hI.facts 33);clear hI he0 hz0 hc0 hf0;refine mV8 hE ?_ B23 HX HE HE7 GQ GE GF GI;clear B23 HX HE HE7 GQ GE GF GI;intro B23 HX HE HE7 GQ GE GF GI;refine mV5 hE ?_ B15 HR HT HU HV;clear B15 HR HT HU HV;intro B15 HR HT HU HV;have hs_w90:=hE.size;replace b_B15:=bX3 B15;replace b_B23:=bX3 B23;simp only [pD];go_wp2
   go_roundg (gk-1)
   case measure=>omega
   case rel=>exact ⟨i+1,zo,by go_num,HE7.out⟩
end Go.Proofs.YtafgmcimcbhhjaaGreat
