/- Eval of package poly. -/
import Derived.Test.YtohahgiidooijaaGreatQDK4
import Derived.Test.YtohahgiidooijaaGreatQDK9
import Derived.Test.YtohahgiidooijaaGreatQDK7
import Derived.Test.YtohahgiidooijaaGreatQDK6
set_option linter.unusedVariables false
set_option maxHeartbeats 8000000
set_option maxRecDepth 8000
namespace Go.Proofs.YtohahgiidooijaaGreat
open Go.RowKit Go.Front Go.Num Stab
attribute [local go_sem] XW.cell XW.frozen
theorem uK(ao:Option Addr)(n c:Nat)(p:List Rat)(t:RH)(x:Rat)(S T:Nat)(w:World)(h:bX w ⟨ao,n,c⟩ p)(ht:bp w t x)(hn:n≤1000)(hp:FrB S p)(hx:Sz T x)(hT:1≤T)(hS3:S≤30000000)(hT3:T≤1000) :
  au 75 [.slice ao n c,t.v] w RH.v (fun y w'=>ay w' y (evV p x)):=by
 obtain ⟨hS,D,hD,hD2,hpf⟩:=hp;have H:=Hi h;have HT:=Hi ht;have HX:=Hi (Ext.refl w);have HPF:=Hi hpf;have ZX:=Hi hx;have hn2:(tz p).length≤n:=by have:=h.len;have h2:=af p;simp only at this;omega
 obtain ⟨tn,ta,tl,tc,tb,tm,td⟩:=t;clear h ht hpf hx;unfold au;go_enter Tryz.func75,Tryz.ntmps75
 go_upto_region 1 with fail
 refine jV ?_;intro w1 hE B3 B4 hz_w1 hr_w1;replace HX:=hE.tr HX;have hs_w1:=hE.size;clear hE;replace b_B3:=bX3 B3;replace b_B4:=bX3 B4
 go_wp2_with fail
 refine cM (gL ao n c p S D _ (H.out.ext HX.out) (by omega) hS (by omega) hD hD2 HPF.out) fun x2 w2 hE G2=>?_
 refine mV3 hE ?_ B3 B4 HX;clear B3 B4 HX;intro B3 B4 HX;have hs_w2:=hE.size;clear hE;replace b_B3:=bX3 B3;replace b_B4:=bX3 B4;obtain ⟨xs,xa⟩:=x2;have HXS:=Hi G2.out.1;obtain ⟨La,hLa,hxa,hra⟩:=G2.out.2;simp only at hxa hLa;subst hxa;have HXA:=Hi hra;clear G2 hra;simp only [MT] at *
 go_upto_region 2 with fail
 refine nmA ?_;intro w3 hE B5 hz_w3 hr_w3;refine mV5 hE ?_ B3 B4 HX HXS HXA;clear B3 B4 HX HXS HXA;intro B3 B4 HX HXS HXA;have hs_w3:=hE.size;clear hE;replace b_B3:=bX3 B3;replace b_B4:=bX3 B4;replace b_B5:=bX3 B5
 go_wp2_with fail
 refine cM (fy ⟨tn,ta,tl,tc,tb,tm,td⟩ x _ (HT.out.ext HX.out)) fun x4 w4 hE G4=>?_
 refine mV6 hE ?_ B5 B3 B4 HX HXS HXA;clear B5 B3 B4 HX HXS HXA;intro B5 B3 B4 HX HXS HXA;have hs_w4:=hE.size;clear hE;replace b_B3:=bX3 B3;replace b_B4:=bX3 B4;replace b_B5:=bX3 B5
 go_upto_region 3 with fail
 refine aV B3.out rfl ?_;intro w5 T;replace HX:=Hi (T.ext HX.out (by omega));replace B3:=Hi (T.bx);replace B4:=Hi (T.rest _ _ (by omega) B4.out);replace HXS:=Hi (HXS.out.keep T.keep);replace HXA:=Hi (HXA.out.put T (by omega));replace B5:=Hi (T.rest _ _ (by omega) B5.out);replace G4:=Hi (G4.out.keep T.keep);have hs_w5:=nle T.size;have hr_w5:=nle T.size.symm;clear T;replace b_B3:=bX3 B3;replace b_B4:=bX3 B4;replace b_B5:=bX3 B5
 go_wp2_with fail
 refine cM (jx x4 x _ G4.out) fun x6 w6 hE G6=>?_
 refine mV7 hE ?_ HX B3 B4 HXS HXA B5 G4;clear HX B3 B4 HXS HXA B5 G4;intro HX B3 B4 HXS HXA B5 G4;have hs_w6:=hE.size;clear hE;replace b_B3:=bX3 B3;replace b_B4:=bX3 B4;replace b_B5:=bX3 B5;obtain ⟨xn,xd⟩:=x6;have HN:=Hi G6.out.1;have HD:=Hi G6.out.2;clear G6;simp only [PT] at *
 clear G4
 go_upto_region 4 with fail
 refine jV ?_;intro w7 hE B7 B8 hz_w7 hr_w7;refine mV8 hE ?_ HX B3 B4 HXS HXA B5 HN HD;clear HX B3 B4 HXS HXA B5 HN HD;intro HX B3 B4 HXS HXA B5 HN HD;have hs_w7:=hE.size;clear hE;replace b_B3:=bX3 B3;replace b_B4:=bX3 B4;replace b_B5:=bX3 B5;replace b_B7:=bX3 B7;replace b_B8:=bX3 B8;obtain ⟨P,hP⟩:∃ P,(aB p).length=P:=⟨_,rfl⟩;have hPn:P≤n:=by rw [←hP,aE];exact hn2
 rw [hP];have LA:=Hi (HXA.out.can hP (nXd _) (by omega));have WA:Hid (∀ x ∈ aB p,Wz S x):=Hi (dC (fun x hx=>HPF.out.tz x hx) hD);have ZA:Hid (SzL S (aB p)):=Hi (fun y hy=>(WA.out y hy).sz hS);have ZS:Hid (Sz S (aO p)):=Hi ((fP (fun x hx=>HPF.out.tz x hx)).sz hS hD hD2);have HV:Hid (evV p x=aO p*evV (aB p) x):=Hi (AG p x).symm;obtain ⟨a,ha⟩:∃ a,a=aB p:=⟨_,rfl⟩;rw [←ha] at LA WA HV ZA hP;have HPl:=Hi hP;clear hLa ha hP HPF;clear HXA;obtain ⟨aa,haa⟩:∃ aa,aa=some (⟨La,0,none⟩:Addr):=⟨_,rfl⟩;rw [←haa] at LA ⊢;obtain ⟨b4,hb4⟩:∃ b4,b4=w.heap.size+1:=⟨_,rfl⟩;obtain ⟨b5,hb5⟩:∃ b5,b5=w2.heap.size:=⟨_,rfl⟩;obtain ⟨b7,hb7⟩:∃ b7,b7=w6.heap.size:=⟨_,rfl⟩;obtain ⟨b8,hb8⟩:∃ b8,b8=w6.heap.size+1:=⟨_,rfl⟩;have hw4:w.heap.size≤b4:=by omega
 have hb7w:b7<w7.heap.size:=by omega
 have hb8w:b8<w7.heap.size:=by omega
 rw [←hb4] at B4 ⊢;rw [←hb5] at B5 ⊢;rw [←hb8] at B8 ⊢;rw [←hb7] at B7 ⊢;clear hb4 hb5 hb7 hb8 haa;have LA7:=LA;have XS7:=HXS;have HN7:=HN;have HD7:=HD;have B47:=B4;have B57:=B5;have B77:=B7;have B87:=B8;have HX0:=HX;have HX7:=Hi (Ext.refl w7);simp only [SH.v];have hw7:w.heap.size≤w7.heap.size:=by omega
 clear LA;clear HXS;clear HN;clear HD
 (try clear b_B3);clear B3
 (try clear b_B4);clear B4
 (try clear b_B5);clear B5
 (try clear b_B7);clear B7
 (try clear b_B8);clear B8
 clear HX
 go_wp2_with fail
 refine cM (bM 0 _ (by decide) (by decide)) fun x8 w8 hE G8=>?_
 replace HX7:=hE.tr HX7;have hs_w8:=hE.size;clear hE
 go_wp2_with fail
 refine cM (bM 1 _ (by decide) (by decide)) fun x9 w9 hE G9=>?_
 refine mV2 hE ?_ G8 HX7;clear G8 HX7;intro G8 HX7;have hs_w9:=hE.size;clear hE
 go_upto_region 5 with fail
 refine jV ?_;intro w10 hE B9 B10 hz_w10 hr_w10;refine mV3 hE ?_ G9 G8 HX7;clear G9 G8 HX7;intro G9 G8 HX7;have hs_w10:=hE.size;clear hE;replace b_B9:=bX3 B9;replace b_B10:=bX3 B10;have HS0:Hid (ay w10 x8 (ehS a x 0)):=Hi (by unfold ehS;rw [if_pos rfl];exact G8.out);have HP0:Hid (ay w10 x9 (ehP x 0)):=Hi (by unfold ehP;rw [Nat.zero_sub,Rat.pow_zero];exact G9.out);obtain ⟨b9,hb9⟩:∃ b9,b9=w9.heap.size:=⟨_,rfl⟩;obtain ⟨b10,hb10⟩:∃ b10,b10=w9.heap.size+1:=⟨_,rfl⟩;have hw9:w7.heap.size≤b9:=by omega
 have hw10:w7.heap.size≤b10:=by omega
 have h910:b9≠b10:=by omega
 rw [←hb10] at B10 ⊢;rw [←hb9] at B9 ⊢;clear hb9 hb10 b_B9 b_B10;go_wp2
 go_loopg [31] P (fun g v wr=>∃ (i:Nat) (u y:RH),i+g=P∧v=.int .i64 (i:Nat)∧Ext w7 wr∧wr.heap[b9]?=some (.cells #[.bool u.neg,.slice u.a u.n u.c,.slice u.b u.m u.d] 30 (0,0))∧wr.heap[b10]?=some (.cells #[.bool y.neg,.slice y.a y.n y.c,.slice y.b y.m y.d] 30 (0,0))∧ay wr u (ehS a x i)∧ay wr y (ehP x i))
 case atStart=>exact ⟨0,x8,x9,by omega,rfl,HX7.out,B9.out,B10.out,HS0.out,HP0.out⟩
 case round =>
  obtain ⟨i,⟨un,ua,ul,uc,ub,um,ud⟩,⟨yn,ya,yl,yc,yb,ym,yd⟩,hi,rfl,g1,g2,g3,g4,g5⟩:=hrel;clear HX7 B9 B10 HS0 HP0 G8 G9;have HX7:=Hi g1;have B9:=Hi g2;have B10:=Hi g3;have HU:=Hi g4;have HY:=Hi g5;have hw7r:=g1.size;clear g1 g2 g3 g4 g5;have hTi:T*i≤1000*1000:=nXw hT3 (by omega);have hTi2:(T+1)*i=T*i+i:=nXx T i;have hTi3:T*(i+1)=T*i+T:=Nat.mul_succ T i;have ZU:Hid (Sz 32000000 (ehS a x i)):=Hi (((AL WA.out ZX.out i (by rw [HPl.out];omega)).mono (by omega)).sz (by decide));have ZY:Hid (Sz 2000000 (ehP x i)):=Hi (((r5 ZX.out).mono (by omega)).sz (by decide));replace b_B9:=bX3 B9;replace b_B10:=bX3 B10;by_cases h0:gk=0
  case pos =>
   subst h0;obtain rfl:i=P:=by omega
   have hin:¬ (i:Int)<i:=by omega
   have HXw:=Hi (HX0.out.trans HX7.out);have B4:=Hi (HX7.out.block B47.out);have B5:=Hi (HX7.out.block B57.out);have HE:Hid (ehS a x i / ehP x i=evV a x):=Hi (by have:=AK a x;rw [HPl.out] at this;exact this);have ZE:Hid (Sz 34000000 (evV a x)):=Hi (by rw [←HE.out];exact (ZU.out.div ZY.out).mono (by decide));replace b_B9:=bX3 B9;replace b_B10:=bX3 B10;replace b_B4:=bX3 B4;replace b_B5:=bX3 B5
   go_wp2_with fail
   refine cM (d9 ⟨un,ua,ul,uc,ub,um,ud⟩ ⟨yn,ya,yl,yc,yb,ym,yd⟩ (ehS a x i) (ehP x i) _ (HU.out.raw ZU.out (by omega)) (HY.out.raw ZY.out (by omega)) (An (AQ x) _)) fun x20 w20 hE G20=>?_
   refine mV8 hE ?_ HX7 B9 B10 HU HY HXw B4 B5;clear HX7 B9 B10 HU HY HXw B4 B5;intro HX7 B9 B10 HU HY HXw B4 B5;have hs_w20:=hE.size;clear hE;replace b_B9:=bX3 B9;replace b_B10:=bX3 B10;replace b_B4:=bX3 B4;replace b_B5:=bX3 B5;rw [HE.out] at G20
   go_upto_region 14 with fail
   refine nmA ?_;intro w21 hE B13 hz_w21 hr_w21;refine mV8 hE ?_ G20 HX7 B9 B10 HU HY HXw B4;clear G20 HX7 B9 B10 HU HY HXw B4;intro G20 HX7 B9 B10 HU HY HXw B4;replace B5:=mV hE B5;have hs_w21:=hE.size;clear hE;replace b_B9:=bX3 B9;replace b_B10:=bX3 B10;replace b_B4:=bX3 B4;replace b_B5:=bX3 B5;replace b_B13:=bX3 B13
   go_wp2_with fail
   refine cM (aY xs x20 (aO p) (evV a x) _ ((XS7.out.ext HX7.out).raw ZS.out (by omega)) (G20.out.raw ZE.out (by omega))) fun x22 w22 hE G22=>?_
   refine mV8 hE ?_ B13 G20 HX7 B9 B10 HU HY HXw;clear B13 G20 HX7 B9 B10 HU HY HXw;intro B13 G20 HX7 B9 B10 HU HY HXw;refine mV2 hE ?_ B4 B5;clear B4 B5;intro B4 B5;have hs_w22:=hE.size;clear hE;replace b_B9:=bX3 B9;replace b_B10:=bX3 B10;replace b_B4:=bX3 B4;replace b_B5:=bX3 B5;replace b_B13:=bX3 B13;go_wp2;have hF:=((((Fin.start (L:=b4) HXw.out (ak B4.out rfl)).set (by omega) (i:=0) (v:=.bool x22.neg) rfl).set (by omega) (i:=1) (v:=.slice x22.a x22.n x22.c) rfl).set (by omega) (i:=2) (v:=.slice x22.b x22.m x22.d) rfl);exact bodyPost_ret (v:=x22.v) (by simp [results,Tryz.results75,go_sem,ae B4.out]) rfl ⟨x22,rfl,hF.ext,(by rw [HV.out];exact G22.out.keep hF.keep)⟩
  have hin:(i:Int)<P:=by omega
  have B7:=Hi (HX7.out.block B77.out);have B8:=Hi (HX7.out.block B87.out);replace b_B9:=bX3 B9;replace b_B10:=bX3 B10;replace b_B7:=bX3 B7;replace b_B8:=bX3 B8;obtain ⟨k,hk⟩:∃ k,k=P-1-i:=⟨_,rfl⟩;have hkP:k<P:=by omega
  have hki:(P:Int)-1-i=k:=by omega
  have HST:Hid (ehS a x i*(x.num:Rat)+a.getD k 0*ehP x (i+1)=ehS a x (i+1)):=Hi (by rw [hk,←HPl.out];exact wg x (by rw [HPl.out];omega));have ZY1:Hid (Sz 2003000 (ehP x (i+1))):=Hi (((r5 ZX.out).mono (by omega)).sz (by decide));have ZK:Hid (Sz S (a.getD k 0)):=Hi (ZA.out.at (by rw [HPl.out];exact hkP));clear hk;by_cases hi0:i=0
  case pos =>
   subst hi0;have hk0:(P:Int)-1=k:=by omega
   clear hki;have HY1:Hid (ay wr ⟨yn,ya,yl,yc,yb,ym,yd⟩ (ehP x (0+1))):=HY;clear HY;obtain ⟨ba,oa,r,hao,hbl,⟨hc1,hc2,hc3⟩,hPc⟩:=(LA7.out.ext HX7.out).celx (k:=k) hkP;obtain ⟨rneg,ra,rn,rc,rb,rm,rd⟩:=r;simp only at hc1 hc2 hc3;have HC:=Hi hPc;clear hPc;subst hao
   go_upto_region 11 with fail
   clear hc1 hc2 hc3;refine nmA ?_;intro w13 hE B12 hz_w13 hr_w13;refine mV8 hE ?_ HX7 B9 B10 HU B7 B8 HY1 HC;clear HX7 B9 B10 HU B7 B8 HY1 HC;intro HX7 B9 B10 HU B7 B8 HY1 HC;have hs_w13:=hE.size;clear hE;replace b_B9:=bX3 B9;replace b_B10:=bX3 B10;replace b_B7:=bX3 B7;replace b_B8:=bX3 B8;replace b_B12:=bX3 B12;refine wpG 7 (fun opIx=>match opIx with
    | 2=>.spec RH default RH.v (fun s w'=>ay w' s (ehS a x 0*(x.num:Rat)))
    | 5=>.spec RH default RH.v (fun s w'=>ay w' s (a.getD k 0*ehP x (0+1)))
    | 6=>.spec RH default RH.v (fun s w'=>ay w' s (ehS a x 0*(x.num:Rat)+a.getD k 0*ehP x (0+1)))
    | _=>.quiet) (fun|6=>[2,5]|_=>[]) fun w0 he0 hz0 hc0 hf0=>?_
   refine wps he0.out rfl rfl (fun w1 hW hG=>?_) fun x30=>?_
   ·exact spc [RH.v ⟨un,ua,ul,uc,ub,um,ud⟩,xn.v] Tryz.func100 (aY _ xn _ _ _ ((HU.out.ext hW).raw ZU.out (by omega)) (((HN7.out.ext HX7.out).ext hW).raw (rH ZX.out hT) (by omega)))
   refine qZ ?_;refine wps he0.out rfl rfl (fun w1 hW hG=>?_) fun x31=>?_
   ·exact spc [RH.v ⟨rneg,ra,rn,rc,rb,rm,rd⟩,RH.v ⟨yn,ya,yl,yc,yb,ym,yd⟩] Tryz.func100 (aY _ _ _ _ _ ((HC.out.ext hW).raw ZK.out (by omega)) ((HY1.out.ext hW).raw ZY1.out (by omega)))
   refine qZ ?_;refine wps he0.out rfl rfl (fun w1 hW hG=>?_) fun x32=>?_
   ·have g30:=(hG 2 (by decide):aD _ _).get fun _ e g=>g.ext e
    have g31:=(hG 5 (by decide):aD _ _).get fun _ e g=>g.ext e
    exact spc [x30.v,x31.v] Tryz.func102 (dp x30 x31 _ _ _ (g30.raw (ZU.out.mul (rH ZX.out hT)) (by omega)) (g31.raw (ZK.out.mul ZY1.out) (by omega)))
   refine qZ ?_;refine aq ?_;intro w14 hI;have hE:=he0.out.trans hI.ext;have G30:=gT (hI.facts 2);have G31:=gT (hI.facts 5);have G32:=gT (hI.facts 6);clear hI he0 hz0 hc0 hf0;refine mV8 hE ?_ B12 B9 B10 B7 B8 HU HX7 HC;clear B12 B9 B10 B7 B8 HU HX7 HC;intro B12 B9 B10 B7 B8 HU HX7 HC;replace HY1:=mV hE HY1;have hs_w14:=hE.size;clear hE;replace b_B9:=bX3 B9;replace b_B10:=bX3 B10;replace b_B7:=bX3 B7;replace b_B8:=bX3 B8;replace b_B12:=bX3 B12;simp only [pD];rw [HST.out] at G32
   go_upto_region 12 with fail
   (try clear b_B12);clear B12
   refine aV B9.out rfl ?_;intro w15 T;replace HX7:=Hi (T.ext HX7.out (by omega));replace HU:=Hi (HU.out.keep T.keep);replace B9:=Hi (T.bx);replace B10:=Hi (T.rest _ _ (by omega) B10.out);replace B7:=Hi (T.rest _ _ (by omega) B7.out);replace B8:=Hi (T.rest _ _ (by omega) B8.out);replace HY1:=Hi (HY1.out.keep T.keep);replace HC:=Hi (HC.out.keep T.keep);replace G30:=Hi (G30.out.keep T.keep);replace G31:=Hi (G31.out.keep T.keep);replace G32:=Hi (G32.out.keep T.keep);have hs_w15:=nle T.size;have hr_w15:=nle T.size.symm;clear T;replace b_B9:=bX3 B9;replace b_B10:=bX3 B10;replace b_B7:=bX3 B7;replace b_B8:=bX3 B8;go_wp2
   go_roundg (gk-1)
   case measure=>omega
   case rel=>exact ⟨0+1,x32,⟨yn,ya,yl,yc,yb,ym,yd⟩,by omega,by go_num,HX7.out,B9.out,B10.out,G32.out,HY1.out⟩
  have hi0':(0:Int)<i:=by omega
  go_wp2_with fail
  refine cM (aY ⟨yn,ya,yl,yc,yb,ym,yd⟩ xd (ehP x i) ((x.den:Int):Rat) _ (HY.out.raw ZY.out (by omega)) ((HD7.out.ext HX7.out).raw (EC ZX.out hT) (by omega))) fun x11 w11 hE G11=>?_
  refine mV7 hE ?_ HY HX7 HU B9 B10 B7 B8;clear HY HX7 HU B9 B10 B7 B8;intro HY HX7 HU B9 B10 B7 B8;have hs_w11:=hE.size;clear hE;replace b_B9:=bX3 B9;replace b_B10:=bX3 B10;replace b_B7:=bX3 B7;replace b_B8:=bX3 B8
  go_upto_region 10 with fail
  refine aV B10.out rfl ?_;intro w12 T;replace HX7:=Hi (T.ext HX7.out (by omega));replace HU:=Hi (HU.out.keep T.keep);replace HY:=Hi (HY.out.keep T.keep);replace B9:=Hi (T.rest _ _ (by omega) B9.out);replace B10:=Hi (T.bx);replace B7:=Hi (T.rest _ _ (by omega) B7.out);replace B8:=Hi (T.rest _ _ (by omega) B8.out);replace G11:=Hi (G11.out.keep T.keep);have hs_w12:=nle T.size;have hr_w12:=nle T.size.symm;clear T;replace b_B9:=bX3 B9;replace b_B10:=bX3 B10;replace b_B7:=bX3 B7;replace b_B8:=bX3 B8;have HY1:Hid (ay w12 x11 (ehP x (i+1))):=Hi (by rw [←zK x (by omega)];exact G11.out);obtain ⟨zn,za,zl,zc,zb,zm,zd⟩:=x11;clear HY;clear G11;obtain ⟨ba,oa,r,hao,hbl,⟨hc1,hc2,hc3⟩,hPc⟩:=(LA7.out.ext HX7.out).celx (k:=k) hkP;obtain ⟨rneg,ra,rn,rc,rb,rm,rd⟩:=r;simp only at hc1 hc2 hc3;have HC:=Hi hPc;clear hPc;subst hao
  go_upto_region 11 with fail
  clear hc1 hc2 hc3;refine nmA ?_;intro w13 hE B12 hz_w13 hr_w13;refine mV8 hE ?_ HX7 HU B9 B10 B7 B8 HY1 HC;clear HX7 HU B9 B10 B7 B8 HY1 HC;intro HX7 HU B9 B10 B7 B8 HY1 HC;have hs_w13:=hE.size;clear hE;replace b_B9:=bX3 B9;replace b_B10:=bX3 B10;replace b_B7:=bX3 B7;replace b_B8:=bX3 B8;replace b_B12:=bX3 B12;refine wpG 7 (fun opIx=>match opIx with
   | 2=>.spec RH default RH.v (fun s w'=>ay w' s (ehS a x i*(x.num:Rat)))
   | 5=>.spec RH default RH.v (fun s w'=>ay w' s (a.getD k 0*ehP x (i+1)))
   | 6=>.spec RH default RH.v (fun s w'=>ay w' s (ehS a x i*(x.num:Rat)+a.getD k 0*ehP x (i+1)))
   | _=>.quiet) (fun|6=>[2,5]|_=>[]) fun w0 he0 hz0 hc0 hf0=>?_
  refine wps he0.out rfl rfl (fun w1 hW hG=>?_) fun x30=>?_
  ·exact spc [RH.v ⟨un,ua,ul,uc,ub,um,ud⟩,xn.v] Tryz.func100 (aY _ xn _ _ _ ((HU.out.ext hW).raw ZU.out (by omega)) (((HN7.out.ext HX7.out).ext hW).raw (rH ZX.out hT) (by omega)))
  refine qZ ?_;refine wps he0.out rfl rfl (fun w1 hW hG=>?_) fun x31=>?_
  ·exact spc [RH.v ⟨rneg,ra,rn,rc,rb,rm,rd⟩,RH.v ⟨zn,za,zl,zc,zb,zm,zd⟩] Tryz.func100 (aY _ _ _ _ _ ((HC.out.ext hW).raw ZK.out (by omega)) ((HY1.out.ext hW).raw ZY1.out (by omega)))
  refine qZ ?_;refine wps he0.out rfl rfl (fun w1 hW hG=>?_) fun x32=>?_
  ·have g30:=(hG 2 (by decide):aD _ _).get fun _ e g=>g.ext e
   have g31:=(hG 5 (by decide):aD _ _).get fun _ e g=>g.ext e
   exact spc [x30.v,x31.v] Tryz.func102 (dp x30 x31 _ _ _ (g30.raw (ZU.out.mul (rH ZX.out hT)) (by omega)) (g31.raw (ZK.out.mul ZY1.out) (by omega)))
  refine qZ ?_;refine aq ?_;intro w14 hI;have hE:=he0.out.trans hI.ext;have G30:=gT (hI.facts 2);have G31:=gT (hI.facts 5);have G32:=gT (hI.facts 6);clear hI he0 hz0 hc0 hf0;refine mV8 hE ?_ B12 B9 B10 B7 B8 HU HX7 HC;clear B12 B9 B10 B7 B8 HU HX7 HC;intro B12 B9 B10 B7 B8 HU HX7 HC;replace HY1:=mV hE HY1;have hs_w14:=hE.size;clear hE;replace b_B9:=bX3 B9;replace b_B10:=bX3 B10;replace b_B7:=bX3 B7;replace b_B8:=bX3 B8;replace b_B12:=bX3 B12;simp only [pD];rw [HST.out] at G32
  go_upto_region 12 with fail
  (try clear b_B12);clear B12
  refine aV B9.out rfl ?_;intro w15 T;replace HX7:=Hi (T.ext HX7.out (by omega));replace HU:=Hi (HU.out.keep T.keep);replace B9:=Hi (T.bx);replace B10:=Hi (T.rest _ _ (by omega) B10.out);replace B7:=Hi (T.rest _ _ (by omega) B7.out);replace B8:=Hi (T.rest _ _ (by omega) B8.out);replace HY1:=Hi (HY1.out.keep T.keep);replace HC:=Hi (HC.out.keep T.keep);replace G30:=Hi (G30.out.keep T.keep);replace G31:=Hi (G31.out.keep T.keep);replace G32:=Hi (G32.out.keep T.keep);have hs_w15:=nle T.size;have hr_w15:=nle T.size.symm;clear T;replace b_B9:=bX3 B9;replace b_B10:=bX3 B10;replace b_B7:=bX3 B7;replace b_B8:=bX3 B8;go_wp2
  go_roundg (gk-1)
  case measure=>omega
  case rel=>exact ⟨i+1,x32,⟨zn,za,zl,zc,zb,zm,zd⟩,by omega,by go_num,HX7.out,B9.out,B10.out,G32.out,HY1.out⟩
def xE(b a c d:List Rat):Int×List Rat×List Rat:=if VF b a∧VF c d then xJ (ag b c) (ag a d) else (2,[],[])
theorem nY(f g:FH)(b a c d:List Rat)(S:Nat)(w:World)(h:pe w f b a)(k:pe w g c d)(hf:f.b.n≤100∧f.a.n≤100)(hg:g.b.n≤100∧g.a.n≤100)(zb:FrB S b)(za:FrB S a)(zc:FrB S c)(zd:FrB S d)(hS:S≤400) :
  au 20 [f.v,g.v] w FE (FEP (xE b a c d)):=by
 obtain ⟨⟨ba,bn,bc⟩,⟨aa,an,ac⟩⟩:=f;obtain ⟨⟨ca,cn,cc⟩,⟨da,dn,dc⟩⟩:=g;have H:=Hi h;have K:=Hi k;have HX:=Hi (Ext.refl w);have ZB:=Hi zb;have ZA:=Hi za;have ZC:=Hi zc;have ZD:=Hi zd;have LB:=Hi h.1.len;have LA:=Hi h.2.len;have LC:=Hi k.1.len;have LD:=Hi k.2.len;simp only at hf hg LB LA LC LD;have HBr:=Hi h.1;have HAr:=Hi h.2;have HCr:=Hi k.1;have HDr:=Hi k.2;clear h k zb za zc zd;unfold au;simp only [FH.v,SH.v];go_enter Tryz.func20,Tryz.ntmps20
 go_upto_region 1 with fail
 refine xI ?_;intro w1 hE B2 B3 B4 hz_w1 hr_w1;replace HX:=hE.tr HX;have hs_w1:=hE.size;clear hE;replace b_B2:=bX3 B2;replace b_B3:=bX3 B3;replace b_B4:=bX3 B4
 go_wp2_with fail
 refine cM (dE ⟨⟨ba,bn,bc⟩,⟨aa,an,ac⟩⟩ b a _ (H.out.ext HX.out)) fun x2 w2 hE _=>?_
 refine mV4 hE ?_ B2 B3 B4 HX;clear B2 B3 B4 HX;intro B2 B3 B4 HX;have hs_w2:=hE.size;clear hE;replace b_B2:=bX3 B2;replace b_B3:=bX3 B3;replace b_B4:=bX3 B4;by_cases hv:VF b a
 case neg =>
  have hv1:decide (VF b a)=false:=decide_eq_false hv;have HV:Hid (xE b a c d=(2,[],[])):=Hi (by unfold xE;rw [if_neg (fun h=>hv h.1)]);rw [hv1];go_wp2;refine dH (F:=fun W=>bodyPost _ _ _ _ _ W) B4.out rfl ?_;intro w3 T;replace HX:=Hi (T.ext HX.out (by omega));replace B2:=Hi (T.rest _ _ (by omega) B2.out);replace B3:=Hi (T.rest _ _ (by omega) B3.out);replace B4:=Hi (T.bx);have hs_w3:=nle T.size;have hr_w3:=nle T.size.symm;clear T;replace b_B2:=bX3 B2;replace b_B3:=bX3 B3;replace b_B4:=bX3 B4;exact bodyPost_ret (v:=FE (⟨⟨none,0,0⟩,⟨none,0,0⟩⟩,2)) (by simp [results,Tryz.results20,go_sem,b_B4.1,FE]) rfl ⟨(⟨⟨none,0,0⟩,⟨none,0,0⟩⟩,2),rfl,HX.out,by rw [HV.out];exact ⟨rfl,kk _⟩⟩
 have hv1:decide (VF b a)=true:=decide_eq_true hv;rw [hv1]
 go_wp2_with fail
 refine cM (dE ⟨⟨ca,cn,cc⟩,⟨da,dn,dc⟩⟩ c d _ (K.out.ext HX.out)) fun x3 w3 hE _=>?_
 refine mV4 hE ?_ HX B2 B3 B4;clear HX B2 B3 B4;intro HX B2 B3 B4;have hs_w3:=hE.size;clear hE;replace b_B2:=bX3 B2;replace b_B3:=bX3 B3;replace b_B4:=bX3 B4;by_cases hu:VF c d
 case neg =>
  have hu1:decide (VF c d)=false:=decide_eq_false hu;have HV:Hid (xE b a c d=(2,[],[])):=Hi (by unfold xE;rw [if_neg (fun h=>hu h.2)]);rw [hu1];go_wp2;refine dH (F:=fun W=>bodyPost _ _ _ _ _ W) B4.out rfl ?_;intro w4 T;replace HX:=Hi (T.ext HX.out (by omega));replace B2:=Hi (T.rest _ _ (by omega) B2.out);replace B3:=Hi (T.rest _ _ (by omega) B3.out);replace B4:=Hi (T.bx);have hs_w4:=nle T.size;have hr_w4:=nle T.size.symm;clear T;replace b_B2:=bX3 B2;replace b_B3:=bX3 B3;replace b_B4:=bX3 B4;exact bodyPost_ret (v:=FE (⟨⟨none,0,0⟩,⟨none,0,0⟩⟩,2)) (by simp [results,Tryz.results20,go_sem,b_B4.1,FE]) rfl ⟨(⟨⟨none,0,0⟩,⟨none,0,0⟩⟩,2),rfl,HX.out,by rw [HV.out];exact ⟨rfl,kk _⟩⟩
 have hu1:decide (VF c d)=true:=decide_eq_true hu;rw [hu1];have HV:Hid (xE b a c d=xJ (ag b c) (ag a d)):=Hi (by unfold xE;rw [if_pos ⟨hv,hu⟩]);obtain ⟨N,hN⟩:∃ N,N=w3.heap.size:=⟨_,rfl⟩;have hN1:w3.heap.size≤N:=by omega
 have hN2:w.heap.size+2<N:=by omega
 have HN:=Hi hN;clear hN;have M1:Hid (FrB 801 (ag b c)):=Hi ((ZB.out.mul ZC.out (by rw [LB.out];omega)).mono (by omega));have M2:Hid (FrB 801 (ag a d)):=Hi ((ZA.out.mul ZD.out (by rw [LA.out];omega)).mono (by omega));have M3:Hid (FrB 801 (ag b d)):=Hi ((ZB.out.mul ZD.out (by rw [LB.out];omega)).mono (by omega));have M4:Hid (FrB 801 (ag c a)):=Hi ((ZC.out.mul ZA.out (by rw [LC.out];omega)).mono (by omega))
 go_upto_region 3 with fail
 refine bU [(12,11),(13,12)] _ (by simp only [jW,nG,List.push_toArray,List.cons_append,List.nil_append];exact rfl) (by intro c a d v w h;cases d <;> exact h) 11 (fun opIx=>match opIx with
  | 4=>.spec (SH) (default) (SH.v) (fun x w'=>bj N w' x (ag b c))
  | 9=>.spec (SH) (default) (SH.v) (fun x w'=>bj N w' x (ag a d))
  | 10=>.spec (FH×Int) ((⟨⟨none,0,0⟩,⟨none,0,0⟩⟩,0)) (FE) (FEN N (xJ (ag b c) (ag a d)))
  | _=>.quiet) (fun|10=>[4,9]|_=>[]) (by kernel_rfl) (by kernel_rfl) (by kernel_rfl) (fun w0 he0 hz0 hc0 hf0=>?_)
 replace he0:=Hi he0;simp only [pT];refine qQ ?_;refine wps he0.out rfl rfl (fun w1 hW hG=>?_) fun x20=>?_
 ·exact spc [.slice ba bn bc,.slice ca cn cc] Tryz.func66 ((kL ba ca bn bc cn cc b c S S _ ((HBr.out.ext HX.out).ext hW) ((HCr.out.ext HX.out).ext hW) (by omega) (by omega) ZB.out ZC.out (by omega)).weak (fun _ _ _ h=>h.mono (by rw [HN.out];exact hW.size)))
 refine qZ ?_;refine wps he0.out rfl rfl (fun w1 hW hG=>?_) fun x21=>?_
 ·exact spc [.slice aa an ac,.slice da dn dc] Tryz.func66 ((kL aa da an ac dn dc a d S S _ ((HAr.out.ext HX.out).ext hW) ((HDr.out.ext HX.out).ext hW) (by omega) (by omega) ZA.out ZD.out (by omega)).weak (fun _ _ _ h=>h.mono (by rw [HN.out];exact hW.size)))
 refine qZ ?_;refine wps he0.out rfl rfl (fun w1 hW hG=>?_) fun x22=>?_
 ·have g20:=(hG 4 (by decide):aD _ _).get fun _ e g=>g.ext e
  have g21:=(hG 9 (by decide):aD _ _).get fun _ e g=>g.ext e
  exact spc [x20.v,x21.v] Tryz.func65 (pU x20 x21 _ _ 801 N _ g20 g21 M1.out.sz M2.out.sz (by decide))
 refine qZ ?_;refine aq ?_;intro w5 hI;have hE:=he0.out.trans hI.ext;have G20:=gT (hI.facts 4);have G21:=gT (hI.facts 9);have G22:=gT (hI.facts 10);clear hI he0 hz0 hc0 hf0;refine mV4 hE ?_ B2 B3 B4 HX;clear B2 B3 B4 HX;intro B2 B3 B4 HX;have hs_w5:=hE.size;clear hE;replace b_B2:=bX3 B2;replace b_B3:=bX3 B3;replace b_B4:=bX3 B4;simp only [pD];obtain ⟨⟨⟨ea,en,ec⟩,⟨fa,fn,fc⟩⟩,er⟩:=x22;obtain ⟨he,h1,h2⟩:=G22.out;simp only at he h1 h2;have L1:=Hi h1;have L2:=Hi h2;have HE:=Hi he;clear h1 h2 he G22;simp only [FE,FH.v];go_wp2;refine dH (F:=fun W=>bodyPost _ _ _ _ _ W) B4.out rfl ?_;intro w6 T;replace HX:=Hi (T.ext HX.out (by omega));replace B2:=Hi (T.rest _ _ (by omega) B2.out);replace B3:=Hi (T.rest _ _ (by omega) B3.out);replace B4:=Hi (T.bx);replace L1:=Hi (L1.out.put T (by omega));replace L2:=Hi (L2.out.put T (by omega));have hs_w6:=nle T.size;have hr_w6:=nle T.size.symm;clear T;replace b_B2:=bX3 B2;replace b_B3:=bX3 B3;replace b_B4:=bX3 B4;exact bodyPost_ret (v:=FE (⟨⟨ea,en,ec⟩,⟨fa,fn,fc⟩⟩,er)) (by simp [results,Tryz.results20,go_sem,b_B4.1,FE]) rfl ⟨(⟨⟨ea,en,ec⟩,⟨fa,fn,fc⟩⟩,er),rfl,HX.out,by rw [HV.out];exact ⟨HE.out,L1.out.can,L2.out.can⟩⟩
theorem aJ.put2{w1 w2:World}{s:SH}{qs:List Rat}{B:Nat}{T T':TypeId}{a a':Option Addr}{n c n' c':Nat}{cs:Array Value}(h:aJ w1 s qs)(hB:w1.heap[B]?=some (.cells #[.slice a n c,.slice a' n' c'] T' (0,0)))(T2:fv w1 B T cs w2):aJ w2 s qs:=by
 obtain ⟨rs,h1,h2⟩:=h;refine ⟨rs,⟨h1.len,h1.le,h1.max,?_⟩,h2.keep T2.keep⟩;rcases h1.at' with h0|⟨b,off,e,hc⟩
 ·exact Or.inl h0
 ·rcases Nat.eq_zero_or_pos s.n with h0|h0
  ·exact Or.inl h0
  ·have hb:b≠B:=by
    intro hb;subst hb;have h3:=(hc 0 h0).1;rw [Nat.zero_mul,Nat.add_zero,ae hB] at h3;rcases off with _|_|off <;> simp at h3
   exact Or.inr ⟨b,off,e,fun k hk=>⟨T2.cell hb (hc k hk).1,T2.cell hb (hc k hk).2.1,T2.cell hb (hc k hk).2.2⟩⟩
def bF(p:List Rat):List Rat:=(List.range p.length).map (fun k=>(((k:Nat):Int):Rat)*p.getD k 0)
theorem co(p:List Rat):(bF p).length=p.length:=by unfold bF;simp
theorem mG{S:Nat}{p:List Rat}(h:FrB S p)(hl:p.length≤1000):FrB (S+1) (bF p) :=
 h.range fun i hi=>⟨_,Wz.int (by
  rw [nYg,Nat.pow_one];exact nXm hi (nXe hl (by decide))),rfl⟩
theorem qK(ao:Option Addr)(n cap:Nat)(p:List Rat)(s:Nat)(w:World)(h:aJ w ⟨ao,n,cap⟩ p)(hn:n≤14)(hz:SzL s p)(hs1:1≤s)(hs:s≤398) :
  au 71 [sdV ⟨ao,n,cap⟩] w SH.v (fun x w'=>aJ w' x (ah (bF p) p)):=by
 obtain ⟨i0,hi0,hz0,hz1,hz2⟩:=info_parts fk;have H:=Hi h;have HX:=Hi (Ext.refl w);have hle:=h.le;have hmx:=h.max;have Hn:=Hi h.len;simp only at hle hmx Hn;have HZ:=Hi hz;clear h hz;unfold au;simp only [sdV,SH.v];go_enter Tryz.func71,Tryz.ntmps71
 go_upto_region 1 with fail
 refine nmA ?_;intro w1 hE B1 hz_w1 hr_w1;replace HX:=hE.tr HX;have hs_w1:=hE.size;clear hE;replace b_B1:=bX3 B1;have HA1:Hid (aJ w1 ⟨ao,n,cap⟩ p):=Hi (H.out.ext HX.out);have B11:=B1;have HX0:=HX;have HX1:=Hi (Ext.refl w1);have hw1:w.heap.size≤w1.heap.size:=by omega
 clear HX
 go_upto_region 2 with (refine aA rfl (.tmp 10) (.tmp 10) 41 rfl 30 i0 (RH.v default) 3 Tryz.underlying41 hi0 hz0 hz1 _ _ n rfl rfl (by omega) (by omega) (by rw [hz2];omega) (by omega) ?_;intro w2 hnew hE)
 have KB:=Hi (RBk.make rfl hnew);clear hnew;refine mV2 hE ?_ B1 HX1;clear B1 HX1;intro B1 HX1;have hs_w2:=hE.size;clear hE;replace b_B1:=bX3 B1;obtain ⟨L,hL⟩:∃ L,L=w1.heap.size:=⟨_,rfl⟩;have hL1:w1.heap.size≤L:=by omega
 rw [←hL] at KB ⊢;clear hL;obtain ⟨b1,hb1⟩:∃ b1,b1=w.heap.size:=⟨_,rfl⟩;have hb1L:b1<L:=by omega
 rw [←hb1] at B1 B11 ⊢;have hb1w:w.heap.size≤b1:=by omega
 clear hb1 b_B1;replace b_B1:=bX3 B1;go_wp2
 go_loopg [15] n (fun g v wr=>∃ (i:Nat) (rs:List RH),i+g=n∧v=.int .i64 (i:Nat)∧Ext w1 wr∧RBk wr L rs #[]∧rs.length=n∧fo wr rs ((List.range i).map (fun k=>(((k:Nat):Int):Rat)*p.getD k 0)))
 case atStart=>exact ⟨0,_,by omega,rfl,HX1.out,KB.out,by simp,fun j hj=>by simp at hj⟩
 case round =>
  obtain ⟨i,rs,hi,rfl,g1,g4,g5,g6⟩:=hrel;clear HX1 KB B1 b_B1;have HX1:=Hi g1;have KB:=Hi g4;have HRl:=Hi g5;have PC:=Hi g6;have hw1r:=g1.size;clear g1 g4 g5 g6;have HTl:Hid (((List.range i).map (fun k=>(((k:Nat):Int):Rat)*p.getD k 0)).length=i):=Hi (by simp)
  try clear f_KB l_KB
  have f_KB:=ab KB.out;have l_KB:=(nXa.1 KB.out).1;have hLr:L<wr.heap.size:=l_KB;by_cases h0:gk=0
  case pos =>
   subst h0;obtain rfl:i=n:=by omega
   have hin:¬ (i:Int)<i:=by omega
   have HXw:=Hi (HX0.out.trans HX1.out);have B1:=Hi (HX1.out.block B11.out);have HV:Hid (bF p=(List.range i).map (fun k=>(((k:Nat):Int):Rat)*p.getD k 0)):=Hi (by unfold bF;rw [Hn.out]);rw [←HV.out] at PC HTl;have LL:Hid (aJ wr ⟨some ⟨L,0,none⟩,i,i⟩ (bF p)):=Hi (bj.can (fo.list (B:=0) PC.out KB.out HRl.out HTl.out (by omega) (by omega)));have ZT:Hid (SzL (s+2) (bF p)):=Hi (by
    intro y hy;rw [HV.out] at hy;obtain ⟨k,hk,rfl⟩:=nYe.1 hy;exact ((Sz.int (z:=((k:Nat):Int)) (by have:=List.mem_range.1 hk;rw [nYg];unfold W32;omega)).mul (HZ.out.getD hs1 k)).mono (by omega))
   try clear f_KB l_KB
   have f_KB:=ab KB.out;have l_KB:=(nXa.1 KB.out).1;replace b_B1:=bX3 B1
   go_wp2_with fail
   refine cM (oZ (some ⟨L,0,none⟩) ao i i i cap (s+2) (bF p) p _ (LL.out.raw ZT.out (by omega)) ((HA1.out.ext HX1.out).raw HZ.out (by omega)) hn hn ZT.out (HZ.out.mono (by omega)) (by omega) (by omega)) fun x20 w20 hE G20=>?_
   refine mV5 hE ?_ HX1 KB PC HXw B1;clear HX1 KB PC HXw B1;intro HX1 KB PC HXw B1;have hs_w20:=hE.size;clear hE
   try clear f_KB l_KB
   have f_KB:=ab KB.out;have l_KB:=(nXa.1 KB.out).1;replace b_B1:=bX3 B1;obtain ⟨⟨ra,rn,rc⟩,re⟩:=x20;obtain ⟨he,hl⟩:=G20.out;simp only at he hl;subst he;have HL:=Hi hl;clear hl G20;simp only [RF,SH.v];go_wp2
   go_ret
   exact ⟨⟨ra,rn,rc⟩,rfl,HXw.out,HL.out⟩
  have hin:(i:Int)<n:=by omega
  obtain ⟨bx,off,r,hao,hbl,⟨hc1,hc2,hc3⟩,hP⟩:=(HA1.out.ext HX1.out).celx (k:=i) (by omega);obtain ⟨rneg,ra,rn,rc,rb,rm,rd⟩:=r;simp only at hc1 hc2 hc3;subst hao;have RP:=Hi hP;have ZP:Hid (Sz s (p.getD i 0)):=Hi (HZ.out.getD hs1 i);clear hP
  go_upto_region 5 with fail
  clear hc1 hc2 hc3;refine nmA ?_;intro w5 hE B5 hz_w5 hr_w5;refine mV4 hE ?_ HX1 KB PC RP;clear HX1 KB PC RP;intro HX1 KB PC RP;have hs_w5:=hE.size;clear hE
  try clear f_KB l_KB
  have f_KB:=ab KB.out;have l_KB:=(nXa.1 KB.out).1;replace b_B5:=bX3 B5;refine wpG 7 (fun opIx=>match opIx with
   | 3=>.spec RH default RH.v (fun s w'=>ay w' s ((((i:Nat):Int):Rat)))
   | 5=>.spec RH default RH.v (fun s w'=>ay w' s ((((i:Nat):Int):Rat)*p.getD i 0))
   | _=>.quiet) (fun|5=>[3]|_=>[]) fun w0 he0 hz0 hc0 hf0=>?_
  refine wps he0.out rfl rfl (fun w1 hW hG=>?_) fun x20=>?_
  ·exact spc [.int .i64 ((i:Nat):Int)] Tryz.func76 (bM ((i:Nat):Int) _ (by omega) (by omega))
  refine qZ ?_;refine wps he0.out rfl rfl (fun w1 hW hG=>?_) fun x21=>?_
  ·have g20:=(hG 3 (by decide):aD _ _).get fun _ e g=>g.ext e
   exact spc [x20.v,RH.v ⟨rneg,ra,rn,rc,rb,rm,rd⟩] Tryz.func100 (aY x20 _ _ _ _ (g20.raw (Sz.int (z:=((i:Nat):Int)) (by rw [nYg];unfold W32;omega)) (by decide)) ((RP.out.ext hW).raw ZP.out (by omega)))
  refine qZ ?_;refine aq ?_;intro w6 hI;have hE:=he0.out.trans hI.ext;have G20:=gT (hI.facts 3);have G21:=gT (hI.facts 5);clear hI he0 hz0 hc0 hf0;refine mV5 hE ?_ B5 HX1 KB PC RP;clear B5 HX1 KB PC RP;intro B5 HX1 KB PC RP;have hs_w6:=hE.size;clear hE
  try clear f_KB l_KB
  have f_KB:=ab KB.out;have l_KB:=(nXa.1 KB.out).1;replace b_B5:=bX3 B5;simp only [pD];obtain ⟨f1,f2,f3⟩:=RBk.at (re:=#[]) KB.out (k:=i) (by rw [HRl.out];omega)
  go_upto_region 6 with fail
  refine cl (k:=i) KB.out rfl (by rw [HRl.out];omega) ?_;intro y6 T;clear f1 f2 f3;replace HX1:=Hi (T.ext HX1.out (by omega));replace PC:=Hi (PC.out.keep T.keep);replace KB:=Hi (T.bx);replace RP:=Hi (RP.out.keep T.keep);replace B5:=Hi (T.rest _ _ (by omega) B5.out);replace G20:=Hi (G20.out.keep T.keep);replace G21:=Hi (G21.out.keep T.keep);have hs_y6:=nle T.size;have hr_y6:=nle T.size.symm;clear T
  try clear f_KB l_KB
  have f_KB:=ab KB.out;have l_KB:=(nXa.1 KB.out).1;replace b_B5:=bX3 B5;replace PC:=Hi (PC.out.snoc (x:=x21) (i:=i) HTl.out (by rw [HRl.out];omega) G21.out);have HMp:Hid ((List.range i).map (fun k=>(((k:Nat):Int):Rat)*p.getD k 0)++[(((i:Nat):Int):Rat)*p.getD i 0]=(List.range (i+1)).map (fun k=>(((k:Nat):Int):Rat)*p.getD k 0)):=Hi (bg (fun k=>(((k:Nat):Int):Rat)*p.getD k 0) i).symm;rw [HMp.out] at PC;go_wp2
  go_roundg (gk-1)
  case measure=>omega
  case rel=>exact ⟨i+1,_,by omega,by go_num,HX1.out,KB.out,by rw [nXn];exact HRl.out,PC.out⟩
end Go.Proofs.YtohahgiidooijaaGreat
/- The group delay: what is computed, plain facts. -/
namespace Go.Proofs.YtohahgiidooijaaGreat
open Go.RowKit Go.Front Go.Num Stab
def dlN(p q:List Rat):List Rat:=subV (ag (ah (bF p) p) (ah q q)) (ag (ah (bF q) q) (ah p p))
def dlD(p q:List Rat):List Rat:=ag (ah p p) (ah q q)
def ngV(l:List Rat):List Rat:=tz (l.map (·*((-1:Int):Rat)))
def cD(b a:List Rat):Int×List Rat×List Rat :=
 if VF b a then
  if tz b=[] then (3,[],[])
  else if 50<(tz b).length+(tz a).length then (12,[],[])
  else if evV (aP (dlD (tz b) (tz a)) (bv (dlN (tz b) (tz a)) (dlD (tz b) (tz a)))) ((1:Int):Rat)<0 then
   (0,ngV (aP (dlN (tz b) (tz a)) (bv (dlN (tz b) (tz a)) (dlD (tz b) (tz a)))),ngV (aP (dlD (tz b) (tz a)) (bv (dlN (tz b) (tz a)) (dlD (tz b) (tz a)))))
  else (0,aP (dlN (tz b) (tz a)) (bv (dlN (tz b) (tz a)) (dlD (tz b) (tz a))),aP (dlD (tz b) (tz a)) (bv (dlN (tz b) (tz a)) (dlD (tz b) (tz a))))
 else (2,[],[])
theorem Ef(c:List Rat):(fbV c).length≤c.length:=by
 unfold fbV;refine nXe (af _) ?_;rw [nXk,nXs];exact nXd _
theorem aM{p q:List Rat}{n:Nat}(hp:p.length≤n)(hq:q.length≤n):(ah p q).length≤n:=by
 unfold ah;refine nXe (Ef _) ?_;rw [nXk,nXs];have:=af p;have:=af q;omega
theorem bI{p q:List Rat}{n m:Nat}(hp:p.length≤n)(hq:q.length≤m):(ag p q).length≤n+m-1:=by
 unfold ag;refine nXe (af _) ?_;have:=af p;have:=af q;rw [nXk,nXs];omega
theorem sC{p q:List Rat}{n:Nat}(hp:p.length≤n)(hq:q.length≤n):(aS p q).length≤n:=by
 unfold aS;refine nXe (af _) ?_;rw [nXk,nXs];omega
theorem tQ{p q:List Rat}{n:Nat}(hp:p.length≤n)(hq:q.length≤n):(subV p q).length≤n:=sC hp (by rw [nXk];exact hq)
theorem Et{p q:List Rat}(hp:p.length≤5)(hq:q.length≤5):(dlN p q).length≤9∧(dlD p q).length≤9:=by
 have h1:=aM (p:=bF p) (q:=p) (n:=5) (by rw [co];exact hp) hp;have h2:=aM (p:=bF q) (q:=q) (n:=5) (by rw [co];exact hq) hq;have h3:=aM hp hp;have h4:=aM hq hq;exact ⟨tQ (bI h1 h4) (bI h2 h3),bI h3 h4⟩
theorem Ex{S:Nat}{p q:List Rat}(hp:FrB S p)(hq:FrB S q)(hpl:p.length≤5)(hql:q.length≤5)(hS:S≤13) :
  FrB 30 (ah p p)∧FrB 30 (ah q q)∧FrB 31 (ah (bF p) p)∧FrB 31 (ah (bF q) q)∧FrB 62 (ag (ah (bF p) p) (ah q q))∧FrB 62 (ag (ah (bF q) q) (ah p p))∧FrB 125 (dlN p q)∧FrB 61 (dlD p q):=by
 have h1:FrB 30 (ah p p):=(hp.cross hp (by omega) (by omega)).mono (by omega);have h2:FrB 30 (ah q q):=(hq.cross hq (by omega) (by omega)).mono (by omega);have h3:FrB 31 (ah (bF p) p):=((mG hp (by omega)).cross hp (by rw [co];omega) (by omega)).mono (by omega);have h4:FrB 31 (ah (bF q) q):=((mG hq (by omega)).cross hq (by rw [co];omega) (by omega)).mono (by omega);have l1:=aM (p:=bF p) (q:=p) (n:=5) (by rw [co];exact hpl) hpl;have l2:=aM (p:=bF q) (q:=q) (n:=5) (by rw [co];exact hql) hql;have l3:=aM hpl hpl;have h5:FrB 62 (ag (ah (bF p) p) (ah q q)):=(h3.mul h2 (by omega)).mono (by omega);have h6:FrB 62 (ag (ah (bF q) q) (ah p p)):=(h4.mul h1 (by omega)).mono (by omega);exact ⟨h1,h2,h3,h4,h5,h6,h5.add h6.neg,(h1.mul h2 (by omega)).mono (by omega)⟩
theorem p9{p q:List Rat}(hp:p.length≤14)(hq:q.length≤5):(dlN p q).length≤18∧(dlD p q).length≤18:=by
 have h1:=aM (p:=bF p) (q:=p) (n:=14) (by rw [co];exact hp) hp;have h2:=aM (p:=bF q) (q:=q) (n:=5) (by rw [co];exact hq) hq;have h3:=aM hp hp;have h4:=aM hq hq;exact ⟨tQ (bI h1 h4) (nXe (bI h2 h3) (by decide)),bI h3 h4⟩
theorem qe{S:Nat}{p q:List Rat}(hp:FrB S p)(hq:FrB S q)(hpl:p.length≤14)(hql:q.length≤5)(hS:S≤40) :
  FrB 84 (ah p p)∧FrB 84 (ah q q)∧FrB 85 (ah (bF p) p)∧FrB 85 (ah (bF q) q)∧FrB 170 (ag (ah (bF p) p) (ah q q))∧FrB 170 (ag (ah (bF q) q) (ah p p))∧FrB 341 (dlN p q)∧FrB 169 (dlD p q):=by
 have h1:FrB 84 (ah p p):=(hp.cross hp (by omega) (by omega)).mono (by omega);have h2:FrB 84 (ah q q):=(hq.cross hq (by omega) (by omega)).mono (by omega);have h3:FrB 85 (ah (bF p) p):=((mG hp (by omega)).cross hp (by rw [co];omega) (by omega)).mono (by omega);have h4:FrB 85 (ah (bF q) q):=((mG hq (by omega)).cross hq (by rw [co];omega) (by omega)).mono (by omega);have l1:=aM (p:=bF p) (q:=p) (n:=14) (by rw [co];exact hpl) hpl;have l2:=aM (p:=bF q) (q:=q) (n:=5) (by rw [co];exact hql) hql;have l3:=aM hpl hpl;have h5:FrB 170 (ag (ah (bF p) p) (ah q q)):=(h3.mul h2 (by omega)).mono (by omega);have h6:FrB 170 (ag (ah (bF q) q) (ah p p)):=(h4.mul h1 (by omega)).mono (by omega);exact ⟨h1,h2,h3,h4,h5,h6,h5.add h6.neg,(h1.mul h2 (by omega)).mono (by omega)⟩
theorem kZ{p q:List Rat}(hp:tz p≠[])(hq:tz q≠[]):ag p q≠[]:=by
 intro h;obtain ⟨n,hn⟩:∃ n,(tz p).length=n+1:=⟨(tz p).length-1,by have:=nYf.2 hp;omega⟩;obtain ⟨m,hm⟩:∃ m,(tz q).length=m+1:=⟨(tz q).length-1,by have:=nYf.2 hq;omega⟩;have h1:seq (ag p q) (n+m)=0:=by rw [h];rfl
 rw [i5,cK,lH (by rw [←hn];exact Bd.seq _) (by rw [←hm];exact Bd.seq _)] at h1;have h2:(tz p).getD n 0≠0:=by rw [ax];exact eV hn
 have h3:(tz q).getD m 0≠0:=by rw [ax];exact eV hm
 rcases nXq.1 h1 with h4|h4
 ·exact h2 h4
 ·exact h3 h4
theorem tY{n:Nat}{f:Nat→Rat}{k:Nat}(hk:k<n)(h:f k≠0):0<sm n (fun i=>f i*f i):=by
 induction n with
 | zero=>omega
 | succ n ih =>
  show 0<sm n (fun i=>f i*f i)+f n*f n;have h0:=t7 (n:=n) (f:=fun i=>f i*f i) (fun i _=>eG _);have h1:=eG (f n);rcases Nat.lt_or_ge k n with h2|h2
  ·have:=ih h2;grind
  ·obtain rfl:k=n:=by omega
   have h3:f k*f k≠0:=fun h3=>by
    rcases nXq.1 h3 with h4|h4 <;> exact h h4
   grind
theorem mw{p:List Rat}(hp:tz p≠[]):ah p p≠[]:=by
 intro h;obtain ⟨n,hn⟩:∃ n,(tz p).length=n+1:=⟨(tz p).length-1,by have:=nYf.2 hp;omega⟩;unfold ah at h;rw [Nat.max_self] at h;have h1:fbV ((List.range (tz p).length).map (crE (tz p) (tz p)))=fbV (List.replicate (tz p).length 0):=by
  rw [h]
  symm
  unfold fbV;apply qH;intro x hx;obtain ⟨i,-,rfl⟩:=nYe.1 hx;unfold fbS;exact j0 (fun k _=>by rw [iV];grind)
 have h2:=AE (tz p).length ((List.range (tz p).length).map (crE (tz p) (tz p))) (List.replicate (tz p).length 0) (by simp) (by simp) (fun i _=>by rw [←kf,←kf,h1]);have h3:((List.range (tz p).length).map (crE (tz p) (tz p))).getD 0 0=0:=by rw [h2,iV]
 rw [bS,if_pos (by omega)] at h3;have h4:crE (tz p) (tz p) 0=sm (tz p).length (fun i=>(tz p).getD i 0*(tz p).getD i 0):=by
  unfold crE jP;rw [if_pos rfl,Nat.sub_zero,Nat.min_self];exact sm_congr (fun i _=>by rw [Nat.add_zero])
 rw [h4] at h3;have h5:=tY (n:=(tz p).length) (f:=fun i=>(tz p).getD i 0) (k:=n) (by omega) (by show (tz p).getD n 0≠0;rw [ax];exact eV hn);rw [h3] at h5;exact absurd h5 Rat.lt_irrefl
theorem u5{p:List Rat}(h:tz p≠[]):bi p≠[]:=fun h1=>by
 have h2:=bK p;rw [h1] at h2;exact h (nXi.1 h2.symm)
theorem Cn:∀ (f:Nat) (p q:List Rat),q.length≤f→tz q=q→tz p=p→(p≠[]∨q≠[])→lV f p q≠[]:=by
 intro f;induction f with
 | zero =>
  intro p q h _ _ h0;have hq:q=[]:=nXi.1 (by omega);rw [hq,dN];rcases h0 with h0|h0
  ·exact h0
  ·exact absurd hq h0
 | succ f ih =>
  intro p q h hq hp h0;by_cases hq0:q=[]
  ·rw [hq0,dN];rcases h0 with h0|h0
   ·exact h0
   ·exact absurd hq0 h0
  ·rw [dT hq0];obtain ⟨g1,g2,-,-⟩:=bW p (q:=q) (by rw [hq];exact hq0);refine ih q _ ?_ (cN _) hq (Or.inl hq0);rw [bK,g2];rw [hq] at g1;omega
theorem Cl{p q:List Rat}(h:tz p≠[]∨tz q≠[]):bv p q≠[]:=by
 unfold bv;refine Cn _ _ _ (by rw [bK];exact nXd _) (cN _) (cN _) ?_;rcases h with h|h
 ·exact Or.inl (u5 h)
 ·exact Or.inr (u5 h)
theorem Cm:∀ (f:Nat) (p q:List Rat),tz q=q→tz p=p→tz (lV f p q)=lV f p q:=by
 intro f;induction f with
 | zero=>intro p q hq hp;exact hp
 | succ f ih =>
  intro p q hq hp;by_cases hq0:q=[]
  ·rw [hq0,dN];exact hp
  ·rw [dT hq0];exact ih q _ (cN _) hq
theorem zv(p q:List Rat):tz (bv p q)=bv p q:=Cm _ _ _ (cN _) (cN _)
theorem Ew{p q:List Rat}(hp:tz p≠[])(hq:tz q≠[]):tz (bv (dlN p q) (dlD p q))≠[]:=by
 rw [zv];refine Cl (Or.inr ?_);have h1:tz (dlD p q)=dlD p q:=av _;rw [h1];exact kZ (by rw [show tz (ah p p)=ah p p from av _];exact mw hp) (by rw [show tz (ah q q)=ah q q from av _];exact mw hq)
theorem wy(q:List Rat):∀ (f:Nat) (u p:List Rat),(f7 q f u p).2.length≤p.length:=by
 intro f;induction f with
 | zero=>intro u p;exact nXd _
 | succ f ih =>
  intro u p;rw [show f7 q (f+1) u p=if q.length≤p.length then f7 q f (u.set (p.length-q.length) (aI p / aI q)) (dk p q) else (u,p) from rfl];split
  ·have h1:=ih (u.set (p.length-q.length) (aI p / aI q)) (dk p q);have h2:=eI p q;omega
  ·exact nXd _
theorem zz:∀ (f:Nat) (a b:List Rat),(lV f a b).length≤max a.length b.length:=by
 intro f;induction f with
 | zero=>intro a b;show a.length≤_;omega
 | succ f ih =>
  intro a b;by_cases h:b=[]
  ·subst h;rw [dN];omega
  ·rw [dT h];have h1:=ih b (bi (bD a b));have h2:(bi (bD a b)).length≤a.length:=by
    rw [bK];refine nXe (af _) ?_;unfold bD;exact nXe (wy _ _ _ _) (af _)
   omega
theorem zw{p q:List Rat}{n:Nat}(hp:p.length≤n)(hq:q.length≤n):(bv p q).length≤n:=by
 have h:=zz (tz q).length (bi p) (bi q);rw [bK,bK] at h;have h1:=af p;have h2:=af q;unfold bv;omega
theorem s5{g:List Rat}(h:GcR 1500000 g):∃ X D,FrL X D g∧1≤X∧0<D∧D<W32 ^ X∧X≤499999:=by
 obtain ⟨X,D,h1,h2,h3,h4,h5⟩:=h;exact ⟨X,D,h1,h2,h3,h4,by have:=GcR.small h5;omega⟩
theorem zQ(q:List Rat):∀ (f:Nat) (u p:List Rat),(f7 q f u p).1.length=u.length:=by
 intro f;induction f with
 | zero=>intro u p;rfl
 | succ f ih =>
  intro u p;rw [show f7 q (f+1) u p=if q.length≤p.length then f7 q f (u.set (p.length-q.length) (aI p / aI q)) (dk p q) else (u,p) from rfl];split
  ·rw [ih,nXn]
  ·rfl
theorem rx(p q:List Rat):(aP p q).length≤p.length+1:=by
 unfold aP;refine nXe (af _) ?_;rw [zQ,nXv];have:=af p;omega
theorem oO{S T:Nat}{p:List Rat}{x:Rat}(hp:FrB S p)(hx:Sz T x)(hT:1≤T)(hn:p.length≤1000)(hT3:T≤1000)(hS3:S≤30000000):Sz (S+34000000) (evV p x):=by
 obtain ⟨hS,D,hD,hD2,hpf⟩:=hp;rw [←AG,←AK];have hl:(aB p).length≤1000:=by rw [aE];exact nXe (af p) hn
 have hw:∀ y ∈ aB p,Wz S y:=dC (fun x hx=>FrL.tz hpf x hx) hD;have h1:T*(aB p).length≤1000*1000:=nXw hT3 hl;have h2:(T+1)*(aB p).length=T*(aB p).length+(aB p).length:=nXx _ _;have hm:Sz S (aO p):=(fP (fun x hx=>FrL.tz hpf x hx)).sz hS hD hD2;refine (hm.mul ((((AL hw hx _ (nXd _)).mono (S':=32000000) (by omega)).sz (by decide)).div (((r5 hx).mono (S':=2000000) (by omega)).sz (by decide)))).mono (by omega)
theorem pJ(s t:SH)(p q:List Rat)(S U:Nat)(w:World)(h:aJ w s p)(k:aJ w t q)(hp:FrB S p)(hq:FrB U q)(hn:p.length≤100)(hm:q.length≤100)(hSU:S+U≤8000000) :
  au 66 [s.v,t.v] w SH.v (fun s w'=>bj w.heap.size w' s (ag p q)):=by
 obtain ⟨ao,n,c⟩:=s;obtain ⟨bo,m,d⟩:=t;have e1:=h.len;have e2:=k.len;simp only at e1 e2;exact kL ao bo n c m d p q S U w (h.raw hp.sz (by omega)) (k.raw hq.sz (by omega)) (by omega) (by omega) hp hq hSU
theorem Bu(s t:SH)(p q:List Rat)(S:Nat)(w:World)(h:aJ w s p)(k:aJ w t q)(zp:SzL S p)(zq:SzL S q)(hn:p.length≤200)(hm:q.length≤200)(hS:S≤8000000) :
  au 70 [s.v,t.v] w SH.v (fun s w'=>bj w.heap.size w' s (subV p q)):=by
 obtain ⟨ao,n,c⟩:=s;obtain ⟨bo,m,d⟩:=t;have e1:=h.len;have e2:=k.len;simp only at e1 e2;exact yE ao bo n c m d p q w (h.raw zp (by omega)) (k.raw zq (by omega)) (by omega) (by omega) (zp.mono (by omega)) (zq.mono (by omega))
end Go.Proofs.YtohahgiidooijaaGreat
