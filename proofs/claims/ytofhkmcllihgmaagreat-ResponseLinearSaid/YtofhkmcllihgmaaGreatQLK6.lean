/- Eval of package poly. -/
import Derived.Test.YtofhkmcllihgmaaGreatQLK3
import Derived.Test.YtofhkmcllihgmaaGreatQLK5
import Derived.Test.YtofhkmcllihgmaaGreatQLK4
set_option linter.unusedVariables false
namespace Go.Proofs.YtofhkmcllihgmaaGreat
open Go.RowKit Go.Front Go.Num Stab
attribute [local go_sem] XW.cell XW.frozen
set_option maxRecDepth 8000 in
set_option maxHeartbeats 8000000 in
theorem n8(ao:Option Addr)(n c:Nat)(p:List Rat)(t:RH)(x:Rat)(S T:Nat)(w:World)(h:bW w ⟨ao,n,c⟩ p)(ht:bi w t x)(hn:n≤1000)(hp:FrB S p)(hx:Sz T x)(hT:1≤T)(hS3:S≤30000000)(hT3:T≤1000) :
  aq 153 [.slice ao n c,t.v] w RH.v (fun y w'=>au w' y (evV p x)):=by
 obtain ⟨hS,D,hD,hD2,hpf⟩:=hp;have H:=Hi h;have HT:=Hi ht;have HX:=Hi (Ext.refl w);have HPF:=Hi hpf;have ZX:=Hi hx;have hn2:(tz p).length≤n:=by have:=h.len;have h2:=ak p;simp only at this;omega
 obtain ⟨tn,ta,tl,tc,tb,tm,td⟩:=t;clear h ht hpf hx;unfold aq;go_enter Tryz.func153,Tryz.ntmps153
 go_upto_region 1 with fail
 refine i8 ?_;intro w1 hE B3 B4 hz_w1 hr_w1;replace HX:=hE.tr HX;have hs_w1:=hE.size;clear hE;replace b_B3:=bX3 B3;replace b_B4:=bX3 B4
 go_wp2_with fail
 refine cM (eC ao n c p S D _ (H.out.ext HX.out) (by omega) hS (by omega) hD hD2 HPF.out) fun x2 w2 hE G2=>?_
 refine mV3 hE ?_ B3 B4 HX;clear B3 B4 HX;intro B3 B4 HX;have hs_w2:=hE.size;clear hE;replace b_B3:=bX3 B3;replace b_B4:=bX3 B4;obtain ⟨xs,xa⟩:=x2;have HXS:=Hi G2.out.1;obtain ⟨La,hLa,hxa,hra⟩:=G2.out.2;simp only at hxa hLa;subst hxa;have HXA:=Hi hra;clear G2 hra;simp only [MT] at *
 go_upto_region 2 with fail
 refine nmA ?_;intro w3 hE B5 hz_w3 hr_w3;refine mV5 hE ?_ B3 B4 HX HXS HXA;clear B3 B4 HX HXS HXA;intro B3 B4 HX HXS HXA;have hs_w3:=hE.size;clear hE;replace b_B3:=bX3 B3;replace b_B4:=bX3 B4;replace b_B5:=bX3 B5
 go_wp2_with fail
 refine cM (dD ⟨tn,ta,tl,tc,tb,tm,td⟩ x _ (HT.out.ext HX.out)) fun x4 w4 hE G4=>?_
 refine mV6 hE ?_ B5 B3 B4 HX HXS HXA;clear B5 B3 B4 HX HXS HXA;intro B5 B3 B4 HX HXS HXA;have hs_w4:=hE.size;clear hE;replace b_B3:=bX3 B3;replace b_B4:=bX3 B4;replace b_B5:=bX3 B5
 go_upto_region 3 with fail
 refine bm B3.out rfl ?_;intro w5 T;replace HX:=Hi (T.ext HX.out (by omega));replace B3:=Hi (T.bx);replace B4:=Hi (T.rest _ _ (by omega) B4.out);replace HXS:=Hi (HXS.out.keep T.keep);replace HXA:=Hi (HXA.out.put T (by omega));replace B5:=Hi (T.rest _ _ (by omega) B5.out);replace G4:=Hi (G4.out.keep T.keep);have hs_w5:=nle T.size;have hr_w5:=nle T.size.symm;clear T;replace b_B3:=bX3 B3;replace b_B4:=bX3 B4;replace b_B5:=bX3 B5
 go_wp2_with fail
 refine cM (f8 x4 x _ G4.out) fun x6 w6 hE G6=>?_
 refine mV7 hE ?_ HX B3 B4 HXS HXA B5 G4;clear HX B3 B4 HXS HXA B5 G4;intro HX B3 B4 HXS HXA B5 G4;have hs_w6:=hE.size;clear hE;replace b_B3:=bX3 B3;replace b_B4:=bX3 B4;replace b_B5:=bX3 B5;obtain ⟨xn,xd⟩:=x6;have HN:=Hi G6.out.1;have HD:=Hi G6.out.2;clear G6;simp only [PT] at *
 clear G4
 go_upto_region 4 with fail
 refine i8 ?_;intro w7 hE B7 B8 hz_w7 hr_w7;refine mV8 hE ?_ HX B3 B4 HXS HXA B5 HN HD;clear HX B3 B4 HXS HXA B5 HN HD;intro HX B3 B4 HXS HXA B5 HN HD;have hs_w7:=hE.size;clear hE;replace b_B3:=bX3 B3;replace b_B4:=bX3 B4;replace b_B5:=bX3 B5;replace b_B7:=bX3 B7;replace b_B8:=bX3 B8;obtain ⟨P,hP⟩:∃ P,(aM p).length=P:=⟨_,rfl⟩;have hPn:P≤n:=by rw [←hP,aP];exact hn2
 rw [hP];have LA:=Hi (HXA.out.can hP (Nat.le_refl _) (by omega));have WA:Hid (∀ x ∈ aM p,Wz S x):=Hi (fD (fun x hx=>HPF.out.tz x hx) hD);have ZA:Hid (SzL S (aM p)):=Hi (fun y hy=>(WA.out y hy).sz hS);have ZS:Hid (Sz S (aO p)):=Hi ((dQ (fun x hx=>HPF.out.tz x hx)).sz hS hD hD2);have HV:Hid (evV p x=aO p*evV (aM p) x):=Hi (r5 p x).symm;obtain ⟨a,ha⟩:∃ a,a=aM p:=⟨_,rfl⟩;rw [←ha] at LA WA HV ZA hP;have HPl:=Hi hP;clear hLa ha hP HPF;clear HXA;obtain ⟨aa,haa⟩:∃ aa,aa=some (⟨La,0,none⟩:Addr):=⟨_,rfl⟩;rw [←haa] at LA ⊢;obtain ⟨b4,hb4⟩:∃ b4,b4=w.heap.size+1:=⟨_,rfl⟩;obtain ⟨b5,hb5⟩:∃ b5,b5=w2.heap.size:=⟨_,rfl⟩;obtain ⟨b7,hb7⟩:∃ b7,b7=w6.heap.size:=⟨_,rfl⟩;obtain ⟨b8,hb8⟩:∃ b8,b8=w6.heap.size+1:=⟨_,rfl⟩;have hw4:w.heap.size≤b4:=by omega
 have hb7w:b7<w7.heap.size:=by omega
 have hb8w:b8<w7.heap.size:=by omega
 rw [←hb4] at B4 ⊢;rw [←hb5] at B5 ⊢;rw [←hb8] at B8 ⊢;rw [←hb7] at B7 ⊢;clear hb4 hb5 hb7 hb8 haa;have LA7:=LA;have XS7:=HXS;have HN7:=HN;have HD7:=HD;have B47:=B4;have B57:=B5;have B77:=B7;have B87:=B8;have HX0:=HX;have HX7:=Hi (Ext.refl w7);simp only [SH.v];have hw7:w.heap.size≤w7.heap.size:=by omega
 clear LA;clear HXS;clear HN;clear HD
 (try clear b_B3);clear B3
 (try clear b_B4);clear B4
 (try clear b_B5);clear B5
 (try clear b_B7);clear B7
 (try clear b_B8);clear B8
 clear HX
 go_wp2_with fail
 refine cM (aW 0 _ (by decide) (by decide)) fun x8 w8 hE G8=>?_
 replace HX7:=hE.tr HX7;have hs_w8:=hE.size;clear hE
 go_wp2_with fail
 refine cM (aW 1 _ (by decide) (by decide)) fun x9 w9 hE G9=>?_
 refine mV2 hE ?_ G8 HX7;clear G8 HX7;intro G8 HX7;have hs_w9:=hE.size;clear hE
 go_upto_region 5 with fail
 refine i8 ?_;intro w10 hE B9 B10 hz_w10 hr_w10;refine mV3 hE ?_ G9 G8 HX7;clear G9 G8 HX7;intro G9 G8 HX7;have hs_w10:=hE.size;clear hE;replace b_B9:=bX3 B9;replace b_B10:=bX3 B10;have HS0:Hid (au w10 x8 (ehS a x 0)):=Hi (by unfold ehS;rw [if_pos rfl];exact G8.out);have HP0:Hid (au w10 x9 (ehP x 0)):=Hi (by unfold ehP;rw [Nat.zero_sub,Rat.pow_zero];exact G9.out);obtain ⟨b9,hb9⟩:∃ b9,b9=w9.heap.size:=⟨_,rfl⟩;obtain ⟨b10,hb10⟩:∃ b10,b10=w9.heap.size+1:=⟨_,rfl⟩;have hw9:w7.heap.size≤b9:=by omega
 have hw10:w7.heap.size≤b10:=by omega
 have h910:b9≠b10:=by omega
 rw [←hb10] at B10 ⊢;rw [←hb9] at B9 ⊢;clear hb9 hb10 b_B9 b_B10;go_wp2
 go_loopg [31] P (fun g v wr=>∃ (i:Nat) (u y:RH),i+g=P∧v=.int .i64 (i:Nat)∧Ext w7 wr∧wr.heap[b9]?=some (.cells #[.bool u.neg,.slice u.a u.n u.c,.slice u.b u.m u.d] 30 (0,0))∧wr.heap[b10]?=some (.cells #[.bool y.neg,.slice y.a y.n y.c,.slice y.b y.m y.d] 30 (0,0))∧au wr u (ehS a x i)∧au wr y (ehP x i))
 case atStart=>exact ⟨0,x8,x9,by omega,rfl,HX7.out,B9.out,B10.out,HS0.out,HP0.out⟩
 case round =>
  obtain ⟨i,⟨un,ua,ul,uc,ub,um,ud⟩,⟨yn,ya,yl,yc,yb,ym,yd⟩,hi,rfl,g1,g2,g3,g4,g5⟩:=hrel;clear HX7 B9 B10 HS0 HP0 G8 G9;have HX7:=Hi g1;have B9:=Hi g2;have B10:=Hi g3;have HU:=Hi g4;have HY:=Hi g5;have hw7r:=g1.size;clear g1 g2 g3 g4 g5;have hTi:T*i≤1000*1000:=Nat.mul_le_mul hT3 (by omega);have hTi2:(T+1)*i=T*i+i:=Nat.succ_mul T i;have hTi3:T*(i+1)=T*i+T:=Nat.mul_succ T i;have ZU:Hid (Sz 32000000 (ehS a x i)):=Hi (((r9 WA.out ZX.out i (by rw [HPl.out];omega)).mono (by omega)).sz (by decide));have ZY:Hid (Sz 2000000 (ehP x i)):=Hi (((mA ZX.out).mono (by omega)).sz (by decide));replace b_B9:=bX3 B9;replace b_B10:=bX3 B10;by_cases h0:gk=0
  case pos =>
   subst h0;obtain rfl:i=P:=by omega
   have hin:¬ (i:Int)<i:=by omega
   have HXw:=Hi (HX0.out.trans HX7.out);have B4:=Hi (HX7.out.block B47.out);have B5:=Hi (HX7.out.block B57.out);have HE:Hid (ehS a x i / ehP x i=evV a x):=Hi (by have:=r7 a x;rw [HPl.out] at this;exact this);have ZE:Hid (Sz 34000000 (evV a x)):=Hi (by rw [←HE.out];exact (ZU.out.div ZY.out).mono (by decide));replace b_B9:=bX3 B9;replace b_B10:=bX3 B10;replace b_B4:=bX3 B4;replace b_B5:=bX3 B5
   go_wp2_with fail
   refine cM (cL ⟨un,ua,ul,uc,ub,um,ud⟩ ⟨yn,ya,yl,yc,yb,ym,yd⟩ (ehS a x i) (ehP x i) _ (HU.out.raw ZU.out (by omega)) (HY.out.raw ZY.out (by omega)) (rS (sj x) _)) fun x20 w20 hE G20=>?_
   refine mV8 hE ?_ HX7 B9 B10 HU HY HXw B4 B5;clear HX7 B9 B10 HU HY HXw B4 B5;intro HX7 B9 B10 HU HY HXw B4 B5;have hs_w20:=hE.size;clear hE;replace b_B9:=bX3 B9;replace b_B10:=bX3 B10;replace b_B4:=bX3 B4;replace b_B5:=bX3 B5;rw [HE.out] at G20
   go_upto_region 14 with fail
   refine nmA ?_;intro w21 hE B13 hz_w21 hr_w21;refine mV8 hE ?_ G20 HX7 B9 B10 HU HY HXw B4;clear G20 HX7 B9 B10 HU HY HXw B4;intro G20 HX7 B9 B10 HU HY HXw B4;replace B5:=mV hE B5;have hs_w21:=hE.size;clear hE;replace b_B9:=bX3 B9;replace b_B10:=bX3 B10;replace b_B4:=bX3 B4;replace b_B5:=bX3 B5;replace b_B13:=bX3 B13
   go_wp2_with fail
   refine cM (aE xs x20 (aO p) (evV a x) _ ((XS7.out.ext HX7.out).raw ZS.out (by omega)) (G20.out.raw ZE.out (by omega))) fun x22 w22 hE G22=>?_
   refine mV8 hE ?_ B13 G20 HX7 B9 B10 HU HY HXw;clear B13 G20 HX7 B9 B10 HU HY HXw;intro B13 G20 HX7 B9 B10 HU HY HXw;refine mV2 hE ?_ B4 B5;clear B4 B5;intro B4 B5;have hs_w22:=hE.size;clear hE;replace b_B9:=bX3 B9;replace b_B10:=bX3 B10;replace b_B4:=bX3 B4;replace b_B5:=bX3 B5;replace b_B13:=bX3 B13;go_wp2;have hF:=((((Fin.start (L:=b4) HXw.out (ah B4.out rfl)).set (by omega) (i:=0) (v:=.bool x22.neg) rfl).set (by omega) (i:=1) (v:=.slice x22.a x22.n x22.c) rfl).set (by omega) (i:=2) (v:=.slice x22.b x22.m x22.d) rfl);exact bodyPost_ret (v:=x22.v) (by simp [results,Tryz.results153,go_sem,ae B4.out]) rfl ⟨x22,rfl,hF.ext,(by rw [HV.out];exact G22.out.keep hF.keep)⟩
  have hin:(i:Int)<P:=by omega
  have B7:=Hi (HX7.out.block B77.out);have B8:=Hi (HX7.out.block B87.out);replace b_B9:=bX3 B9;replace b_B10:=bX3 B10;replace b_B7:=bX3 B7;replace b_B8:=bX3 B8;obtain ⟨k,hk⟩:∃ k,k=P-1-i:=⟨_,rfl⟩;have hkP:k<P:=by omega
  have hki:(P:Int)-1-i=k:=by omega
  have HST:Hid (ehS a x i*(x.num:Rat)+a.getD k 0*ehP x (i+1)=ehS a x (i+1)):=Hi (by rw [hk,←HPl.out];exact o9 x (by rw [HPl.out];omega));have ZY1:Hid (Sz 2003000 (ehP x (i+1))):=Hi (((mA ZX.out).mono (by omega)).sz (by decide));have ZK:Hid (Sz S (a.getD k 0)):=Hi (ZA.out.at (by rw [HPl.out];exact hkP));clear hk;by_cases hi0:i=0
  case pos =>
   subst hi0;have hk0:(P:Int)-1=k:=by omega
   clear hki;have HY1:Hid (au wr ⟨yn,ya,yl,yc,yb,ym,yd⟩ (ehP x (0+1))):=HY;clear HY;obtain ⟨ba,oa,r,hao,hbl,⟨hc1,hc2,hc3⟩,hPc⟩:=(LA7.out.ext HX7.out).celx (k:=k) hkP;obtain ⟨rneg,ra,rn,rc,rb,rm,rd⟩:=r;simp only at hc1 hc2 hc3;have HC:=Hi hPc;clear hPc;subst hao
   go_upto_region 11 with fail
   clear hc1 hc2 hc3;refine nmA ?_;intro w13 hE B12 hz_w13 hr_w13;refine mV8 hE ?_ HX7 B9 B10 HU B7 B8 HY1 HC;clear HX7 B9 B10 HU B7 B8 HY1 HC;intro HX7 B9 B10 HU B7 B8 HY1 HC;have hs_w13:=hE.size;clear hE;replace b_B9:=bX3 B9;replace b_B10:=bX3 B10;replace b_B7:=bX3 B7;replace b_B8:=bX3 B8;replace b_B12:=bX3 B12;refine wpG 7 (fun opIx=>match opIx with
    | 2=>.spec RH default RH.v (fun s w'=>au w' s (ehS a x 0*(x.num:Rat)))
    | 5=>.spec RH default RH.v (fun s w'=>au w' s (a.getD k 0*ehP x (0+1)))
    | 6=>.spec RH default RH.v (fun s w'=>au w' s (ehS a x 0*(x.num:Rat)+a.getD k 0*ehP x (0+1)))
    | _=>.quiet) (fun|6=>[2,5]|_=>[]) fun w0 he0 hz0 hc0 hf0=>?_
   refine wps he0.out rfl rfl (fun w1 hW hG=>?_) fun x30=>?_
   ·exact spc [RH.v ⟨un,ua,ul,uc,ub,um,ud⟩,xn.v] Tryz.func139 (aE _ xn _ _ _ ((HU.out.ext hW).raw ZU.out (by omega)) (((HN7.out.ext HX7.out).ext hW).raw (mg ZX.out hT) (by omega)))
   refine qZ ?_;refine wps he0.out rfl rfl (fun w1 hW hG=>?_) fun x31=>?_
   ·exact spc [RH.v ⟨rneg,ra,rn,rc,rb,rm,rd⟩,RH.v ⟨yn,ya,yl,yc,yb,ym,yd⟩] Tryz.func139 (aE _ _ _ _ _ ((HC.out.ext hW).raw ZK.out (by omega)) ((HY1.out.ext hW).raw ZY1.out (by omega)))
   refine qZ ?_;refine wps he0.out rfl rfl (fun w1 hW hG=>?_) fun x32=>?_
   ·have g30:=(hG 2 (by decide):ay _ _).get fun _ e g=>g.ext e
    have g31:=(hG 5 (by decide):ay _ _).get fun _ e g=>g.ext e
    exact spc [x30.v,x31.v] Tryz.func138 (cd x30 x31 _ _ _ (g30.raw (ZU.out.mul (mg ZX.out hT)) (by omega)) (g31.raw (ZK.out.mul ZY1.out) (by omega)))
   refine qZ ?_;refine wpF_nil ?_;intro w14 hI;have hE:=he0.out.trans hI.ext;have G30:=gT (hI.facts 2);have G31:=gT (hI.facts 5);have G32:=gT (hI.facts 6);clear hI he0 hz0 hc0 hf0;refine mV8 hE ?_ B12 B9 B10 B7 B8 HU HX7 HC;clear B12 B9 B10 B7 B8 HU HX7 HC;intro B12 B9 B10 B7 B8 HU HX7 HC;replace HY1:=mV hE HY1;have hs_w14:=hE.size;clear hE;replace b_B9:=bX3 B9;replace b_B10:=bX3 B10;replace b_B7:=bX3 B7;replace b_B8:=bX3 B8;replace b_B12:=bX3 B12;simp only [pD];rw [HST.out] at G32
   go_upto_region 12 with fail
   (try clear b_B12);clear B12
   refine bm B9.out rfl ?_;intro w15 T;replace HX7:=Hi (T.ext HX7.out (by omega));replace HU:=Hi (HU.out.keep T.keep);replace B9:=Hi (T.bx);replace B10:=Hi (T.rest _ _ (by omega) B10.out);replace B7:=Hi (T.rest _ _ (by omega) B7.out);replace B8:=Hi (T.rest _ _ (by omega) B8.out);replace HY1:=Hi (HY1.out.keep T.keep);replace HC:=Hi (HC.out.keep T.keep);replace G30:=Hi (G30.out.keep T.keep);replace G31:=Hi (G31.out.keep T.keep);replace G32:=Hi (G32.out.keep T.keep);have hs_w15:=nle T.size;have hr_w15:=nle T.size.symm;clear T;replace b_B9:=bX3 B9;replace b_B10:=bX3 B10;replace b_B7:=bX3 B7;replace b_B8:=bX3 B8;go_wp2
   go_roundg (gk-1)
   case measure=>omega
   case rel=>exact ⟨0+1,x32,⟨yn,ya,yl,yc,yb,ym,yd⟩,by omega,by go_num,HX7.out,B9.out,B10.out,G32.out,HY1.out⟩
  have hi0':(0:Int)<i:=by omega
  go_wp2_with fail
  refine cM (aE ⟨yn,ya,yl,yc,yb,ym,yd⟩ xd (ehP x i) ((x.den:Int):Rat) _ (HY.out.raw ZY.out (by omega)) ((HD7.out.ext HX7.out).raw (uR ZX.out hT) (by omega))) fun x11 w11 hE G11=>?_
  refine mV7 hE ?_ HY HX7 HU B9 B10 B7 B8;clear HY HX7 HU B9 B10 B7 B8;intro HY HX7 HU B9 B10 B7 B8;have hs_w11:=hE.size;clear hE;replace b_B9:=bX3 B9;replace b_B10:=bX3 B10;replace b_B7:=bX3 B7;replace b_B8:=bX3 B8
  go_upto_region 10 with fail
  refine bm B10.out rfl ?_;intro w12 T;replace HX7:=Hi (T.ext HX7.out (by omega));replace HU:=Hi (HU.out.keep T.keep);replace HY:=Hi (HY.out.keep T.keep);replace B9:=Hi (T.rest _ _ (by omega) B9.out);replace B10:=Hi (T.bx);replace B7:=Hi (T.rest _ _ (by omega) B7.out);replace B8:=Hi (T.rest _ _ (by omega) B8.out);replace G11:=Hi (G11.out.keep T.keep);have hs_w12:=nle T.size;have hr_w12:=nle T.size.symm;clear T;replace b_B9:=bX3 B9;replace b_B10:=bX3 B10;replace b_B7:=bX3 B7;replace b_B8:=bX3 B8;have HY1:Hid (au w12 x11 (ehP x (i+1))):=Hi (by rw [←rx x (by omega)];exact G11.out);obtain ⟨zn,za,zl,zc,zb,zm,zd⟩:=x11;clear HY;clear G11;obtain ⟨ba,oa,r,hao,hbl,⟨hc1,hc2,hc3⟩,hPc⟩:=(LA7.out.ext HX7.out).celx (k:=k) hkP;obtain ⟨rneg,ra,rn,rc,rb,rm,rd⟩:=r;simp only at hc1 hc2 hc3;have HC:=Hi hPc;clear hPc;subst hao
  go_upto_region 11 with fail
  clear hc1 hc2 hc3;refine nmA ?_;intro w13 hE B12 hz_w13 hr_w13;refine mV8 hE ?_ HX7 HU B9 B10 B7 B8 HY1 HC;clear HX7 HU B9 B10 B7 B8 HY1 HC;intro HX7 HU B9 B10 B7 B8 HY1 HC;have hs_w13:=hE.size;clear hE;replace b_B9:=bX3 B9;replace b_B10:=bX3 B10;replace b_B7:=bX3 B7;replace b_B8:=bX3 B8;replace b_B12:=bX3 B12;refine wpG 7 (fun opIx=>match opIx with
   | 2=>.spec RH default RH.v (fun s w'=>au w' s (ehS a x i*(x.num:Rat)))
   | 5=>.spec RH default RH.v (fun s w'=>au w' s (a.getD k 0*ehP x (i+1)))
   | 6=>.spec RH default RH.v (fun s w'=>au w' s (ehS a x i*(x.num:Rat)+a.getD k 0*ehP x (i+1)))
   | _=>.quiet) (fun|6=>[2,5]|_=>[]) fun w0 he0 hz0 hc0 hf0=>?_
  refine wps he0.out rfl rfl (fun w1 hW hG=>?_) fun x30=>?_
  ·exact spc [RH.v ⟨un,ua,ul,uc,ub,um,ud⟩,xn.v] Tryz.func139 (aE _ xn _ _ _ ((HU.out.ext hW).raw ZU.out (by omega)) (((HN7.out.ext HX7.out).ext hW).raw (mg ZX.out hT) (by omega)))
  refine qZ ?_;refine wps he0.out rfl rfl (fun w1 hW hG=>?_) fun x31=>?_
  ·exact spc [RH.v ⟨rneg,ra,rn,rc,rb,rm,rd⟩,RH.v ⟨zn,za,zl,zc,zb,zm,zd⟩] Tryz.func139 (aE _ _ _ _ _ ((HC.out.ext hW).raw ZK.out (by omega)) ((HY1.out.ext hW).raw ZY1.out (by omega)))
  refine qZ ?_;refine wps he0.out rfl rfl (fun w1 hW hG=>?_) fun x32=>?_
  ·have g30:=(hG 2 (by decide):ay _ _).get fun _ e g=>g.ext e
   have g31:=(hG 5 (by decide):ay _ _).get fun _ e g=>g.ext e
   exact spc [x30.v,x31.v] Tryz.func138 (cd x30 x31 _ _ _ (g30.raw (ZU.out.mul (mg ZX.out hT)) (by omega)) (g31.raw (ZK.out.mul ZY1.out) (by omega)))
  refine qZ ?_;refine wpF_nil ?_;intro w14 hI;have hE:=he0.out.trans hI.ext;have G30:=gT (hI.facts 2);have G31:=gT (hI.facts 5);have G32:=gT (hI.facts 6);clear hI he0 hz0 hc0 hf0;refine mV8 hE ?_ B12 B9 B10 B7 B8 HU HX7 HC;clear B12 B9 B10 B7 B8 HU HX7 HC;intro B12 B9 B10 B7 B8 HU HX7 HC;replace HY1:=mV hE HY1;have hs_w14:=hE.size;clear hE;replace b_B9:=bX3 B9;replace b_B10:=bX3 B10;replace b_B7:=bX3 B7;replace b_B8:=bX3 B8;replace b_B12:=bX3 B12;simp only [pD];rw [HST.out] at G32
  go_upto_region 12 with fail
  (try clear b_B12);clear B12
  refine bm B9.out rfl ?_;intro w15 T;replace HX7:=Hi (T.ext HX7.out (by omega));replace HU:=Hi (HU.out.keep T.keep);replace B9:=Hi (T.bx);replace B10:=Hi (T.rest _ _ (by omega) B10.out);replace B7:=Hi (T.rest _ _ (by omega) B7.out);replace B8:=Hi (T.rest _ _ (by omega) B8.out);replace HY1:=Hi (HY1.out.keep T.keep);replace HC:=Hi (HC.out.keep T.keep);replace G30:=Hi (G30.out.keep T.keep);replace G31:=Hi (G31.out.keep T.keep);replace G32:=Hi (G32.out.keep T.keep);have hs_w15:=nle T.size;have hr_w15:=nle T.size.symm;clear T;replace b_B9:=bX3 B9;replace b_B10:=bX3 B10;replace b_B7:=bX3 B7;replace b_B8:=bX3 B8;go_wp2
  go_roundg (gk-1)
  case measure=>omega
  case rel=>exact ⟨i+1,x32,⟨zn,za,zl,zc,zb,zm,zd⟩,by omega,by go_num,HX7.out,B9.out,B10.out,G32.out,HY1.out⟩
end Go.Proofs.YtofhkmcllihgmaaGreat
/- Series, Parallel of package response (written by gen/resp.py). -/
set_option linter.unusedVariables false
namespace Go.Proofs.YtofhkmcllihgmaaGreat
open Go.RowKit Go.Front Go.Num Stab
attribute [local go_sem] XW.cell XW.frozen
end Go.Proofs.YtofhkmcllihgmaaGreat
/- turn, Magnitude of package response. -/
set_option linter.unusedVariables false
namespace Go.Proofs.YtofhkmcllihgmaaGreat
open Go.RowKit Go.Front Go.Num Stab
attribute [local go_sem] XW.cell XW.frozen
theorem aI.put2{w1 w2:World}{s:SH}{qs:List Rat}{B:Nat}{T T':TypeId}{a a':Option Addr}{n c n' c':Nat}{cs:Array Value}(h:aI w1 s qs)(hB:w1.heap[B]?=some (.cells #[.slice a n c,.slice a' n' c'] T' (0,0)))(T2:gp w1 B T cs w2):aI w2 s qs:=by
 obtain ⟨rs,h1,h2⟩:=h;refine ⟨rs,⟨h1.len,h1.le,h1.max,?_⟩,h2.keep T2.keep⟩;rcases h1.at' with h0|⟨b,off,e,hc⟩
 ·exact Or.inl h0
 ·rcases Nat.eq_zero_or_pos s.n with h0|h0
  ·exact Or.inl h0
  ·have hb:b≠B:=by
    intro hb;subst hb;have h3:=(hc 0 h0).1;rw [Nat.zero_mul,Nat.add_zero,ae hB] at h3;rcases off with _|_|off <;> simp at h3
   exact Or.inr ⟨b,off,e,fun k hk=>⟨T2.cell hb (hc k hk).1,T2.cell hb (hc k hk).2.1,T2.cell hb (hc k hk).2.2⟩⟩
def fY(p:List Rat):List Rat:=(List.range p.length).map (fun k=>(((k:Nat):Int):Rat)*p.getD k 0)
theorem dw(p:List Rat):(fY p).length=p.length:=by unfold fY;simp
theorem nB{S:Nat}{p:List Rat}(h:FrB S p)(hl:p.length≤1000):FrB (S+1) (fY p) :=
 h.range fun i hi=>⟨_,Wz.int (by
  rw [Int.natAbs_natCast,Nat.pow_one];exact Nat.lt_of_lt_of_le hi (Nat.le_trans hl (by decide))),rfl⟩
set_option maxRecDepth 8000 in
set_option maxHeartbeats 8000000 in
theorem lN(ao:Option Addr)(n cap:Nat)(p:List Rat)(s:Nat)(w:World)(h:aI w ⟨ao,n,cap⟩ p)(hn:n≤12)(hz:SzL s p)(hs1:1≤s)(hs:s≤398) :
  aq 149 [sdV ⟨ao,n,cap⟩] w SH.v (fun x w'=>aI w' x (az (fY p) p)):=by
 obtain ⟨i0,hi0,hz0,hz1,hz2⟩:=info_parts eN;have H:=Hi h;have HX:=Hi (Ext.refl w);have hle:=h.le;have hmx:=h.max;have Hn:=Hi h.len;simp only at hle hmx Hn;have HZ:=Hi hz;clear h hz;unfold aq;simp only [sdV,SH.v];go_enter Tryz.func149,Tryz.ntmps149
 go_upto_region 1 with fail
 refine nmA ?_;intro w1 hE B1 hz_w1 hr_w1;replace HX:=hE.tr HX;have hs_w1:=hE.size;clear hE;replace b_B1:=bX3 B1;have HA1:Hid (aI w1 ⟨ao,n,cap⟩ p):=Hi (H.out.ext HX.out);have B11:=B1;have HX0:=HX;have HX1:=Hi (Ext.refl w1);have hw1:w.heap.size≤w1.heap.size:=by omega
 clear HX
 go_upto_region 2 with (refine ar rfl (.tmp 10) (.tmp 10) 41 rfl 30 i0 (RH.v default) 3 Tryz.underlying41 hi0 hz0 hz1 _ _ n rfl rfl (by omega) (by omega) (by rw [hz2];omega) (by omega) ?_;intro w2 hnew hE)
 have KB:=Hi (RBk.make rfl hnew);clear hnew;refine mV2 hE ?_ B1 HX1;clear B1 HX1;intro B1 HX1;have hs_w2:=hE.size;clear hE;replace b_B1:=bX3 B1;obtain ⟨L,hL⟩:∃ L,L=w1.heap.size:=⟨_,rfl⟩;have hL1:w1.heap.size≤L:=by omega
 rw [←hL] at KB ⊢;clear hL;obtain ⟨b1,hb1⟩:∃ b1,b1=w.heap.size:=⟨_,rfl⟩;have hb1L:b1<L:=by omega
 rw [←hb1] at B1 B11 ⊢;have hb1w:w.heap.size≤b1:=by omega
 clear hb1 b_B1;replace b_B1:=bX3 B1;go_wp2
 go_loopg [15] n (fun g v wr=>∃ (i:Nat) (rs:List RH),i+g=n∧v=.int .i64 (i:Nat)∧Ext w1 wr∧RBk wr L rs #[]∧rs.length=n∧dJ wr rs ((List.range i).map (fun k=>(((k:Nat):Int):Rat)*p.getD k 0)))
 case atStart=>exact ⟨0,_,by omega,rfl,HX1.out,KB.out,by simp,fun j hj=>by simp at hj⟩
 case round =>
  obtain ⟨i,rs,hi,rfl,g1,g4,g5,g6⟩:=hrel;clear HX1 KB B1 b_B1;have HX1:=Hi g1;have KB:=Hi g4;have HRl:=Hi g5;have PC:=Hi g6;have hw1r:=g1.size;clear g1 g4 g5 g6;have HTl:Hid (((List.range i).map (fun k=>(((k:Nat):Int):Rat)*p.getD k 0)).length=i):=Hi (by simp)
  try clear f_KB l_KB
  have f_KB:=ab KB.out;have l_KB:=(Array.getElem?_eq_some_iff.1 KB.out).1;have hLr:L<wr.heap.size:=l_KB;by_cases h0:gk=0
  case pos =>
   subst h0;obtain rfl:i=n:=by omega
   have hin:¬ (i:Int)<i:=by omega
   have HXw:=Hi (HX0.out.trans HX1.out);have B1:=Hi (HX1.out.block B11.out);have HV:Hid (fY p=(List.range i).map (fun k=>(((k:Nat):Int):Rat)*p.getD k 0)):=Hi (by unfold fY;rw [Hn.out]);rw [←HV.out] at PC HTl;have LL:Hid (aI wr ⟨some ⟨L,0,none⟩,i,i⟩ (fY p)):=Hi (bv.can (dJ.list (B:=0) PC.out KB.out HRl.out HTl.out (by omega) (by omega)));have ZT:Hid (SzL (s+2) (fY p)):=Hi (by
    intro y hy;rw [HV.out] at hy;obtain ⟨k,hk,rfl⟩:=List.mem_map.1 hy;exact ((Sz.int (z:=((k:Nat):Int)) (by have:=List.mem_range.1 hk;rw [Int.natAbs_natCast];unfold W32;omega)).mul (HZ.out.getD hs1 k)).mono (by omega))
   try clear f_KB l_KB
   have f_KB:=ab KB.out;have l_KB:=(Array.getElem?_eq_some_iff.1 KB.out).1;replace b_B1:=bX3 B1
   go_wp2_with fail
   refine cM (kA (some ⟨L,0,none⟩) ao i i i cap (s+2) (fY p) p _ (LL.out.raw ZT.out (by omega)) ((HA1.out.ext HX1.out).raw HZ.out (by omega)) hn hn ZT.out (HZ.out.mono (by omega)) (by omega) (by omega)) fun x20 w20 hE G20=>?_
   refine mV5 hE ?_ HX1 KB PC HXw B1;clear HX1 KB PC HXw B1;intro HX1 KB PC HXw B1;have hs_w20:=hE.size;clear hE
   try clear f_KB l_KB
   have f_KB:=ab KB.out;have l_KB:=(Array.getElem?_eq_some_iff.1 KB.out).1;replace b_B1:=bX3 B1;obtain ⟨⟨ra,rn,rc⟩,re⟩:=x20;obtain ⟨he,hl⟩:=G20.out;simp only at he hl;subst he;have HL:=Hi hl;clear hl G20;simp only [RF,SH.v];go_wp2
   go_ret
   exact ⟨⟨ra,rn,rc⟩,rfl,HXw.out,HL.out⟩
  have hin:(i:Int)<n:=by omega
  obtain ⟨bx,off,r,hao,hbl,⟨hc1,hc2,hc3⟩,hP⟩:=(HA1.out.ext HX1.out).celx (k:=i) (by omega);obtain ⟨rneg,ra,rn,rc,rb,rm,rd⟩:=r;simp only at hc1 hc2 hc3;subst hao;have RP:=Hi hP;have ZP:Hid (Sz s (p.getD i 0)):=Hi (HZ.out.getD hs1 i);clear hP
  go_upto_region 5 with fail
  clear hc1 hc2 hc3;refine nmA ?_;intro w5 hE B5 hz_w5 hr_w5;refine mV4 hE ?_ HX1 KB PC RP;clear HX1 KB PC RP;intro HX1 KB PC RP;have hs_w5:=hE.size;clear hE
  try clear f_KB l_KB
  have f_KB:=ab KB.out;have l_KB:=(Array.getElem?_eq_some_iff.1 KB.out).1;replace b_B5:=bX3 B5;refine wpG 7 (fun opIx=>match opIx with
   | 3=>.spec RH default RH.v (fun s w'=>au w' s ((((i:Nat):Int):Rat)))
   | 5=>.spec RH default RH.v (fun s w'=>au w' s ((((i:Nat):Int):Rat)*p.getD i 0))
   | _=>.quiet) (fun|5=>[3]|_=>[]) fun w0 he0 hz0 hc0 hf0=>?_
  refine wps he0.out rfl rfl (fun w1 hW hG=>?_) fun x20=>?_
  ·exact spc [.int .i64 ((i:Nat):Int)] Tryz.func137 (aW ((i:Nat):Int) _ (by omega) (by omega))
  refine qZ ?_;refine wps he0.out rfl rfl (fun w1 hW hG=>?_) fun x21=>?_
  ·have g20:=(hG 3 (by decide):ay _ _).get fun _ e g=>g.ext e
   exact spc [x20.v,RH.v ⟨rneg,ra,rn,rc,rb,rm,rd⟩] Tryz.func139 (aE x20 _ _ _ _ (g20.raw (Sz.int (z:=((i:Nat):Int)) (by rw [Int.natAbs_natCast];unfold W32;omega)) (by decide)) ((RP.out.ext hW).raw ZP.out (by omega)))
  refine qZ ?_;refine wpF_nil ?_;intro w6 hI;have hE:=he0.out.trans hI.ext;have G20:=gT (hI.facts 3);have G21:=gT (hI.facts 5);clear hI he0 hz0 hc0 hf0;refine mV5 hE ?_ B5 HX1 KB PC RP;clear B5 HX1 KB PC RP;intro B5 HX1 KB PC RP;have hs_w6:=hE.size;clear hE
  try clear f_KB l_KB
  have f_KB:=ab KB.out;have l_KB:=(Array.getElem?_eq_some_iff.1 KB.out).1;replace b_B5:=bX3 B5;simp only [pD];obtain ⟨f1,f2,f3⟩:=RBk.at (re:=#[]) KB.out (k:=i) (by rw [HRl.out];omega)
  go_upto_region 6 with fail
  refine bT (k:=i) KB.out rfl (by rw [HRl.out];omega) ?_;intro y6 T;clear f1 f2 f3;replace HX1:=Hi (T.ext HX1.out (by omega));replace PC:=Hi (PC.out.keep T.keep);replace KB:=Hi (T.bx);replace RP:=Hi (RP.out.keep T.keep);replace B5:=Hi (T.rest _ _ (by omega) B5.out);replace G20:=Hi (G20.out.keep T.keep);replace G21:=Hi (G21.out.keep T.keep);have hs_y6:=nle T.size;have hr_y6:=nle T.size.symm;clear T
  try clear f_KB l_KB
  have f_KB:=ab KB.out;have l_KB:=(Array.getElem?_eq_some_iff.1 KB.out).1;replace b_B5:=bX3 B5;replace PC:=Hi (PC.out.snoc (x:=x21) (i:=i) HTl.out (by rw [HRl.out];omega) G21.out);have HMp:Hid ((List.range i).map (fun k=>(((k:Nat):Int):Rat)*p.getD k 0)++[(((i:Nat):Int):Rat)*p.getD i 0]=(List.range (i+1)).map (fun k=>(((k:Nat):Int):Rat)*p.getD k 0)):=Hi (bf (fun k=>(((k:Nat):Int):Rat)*p.getD k 0) i).symm;rw [HMp.out] at PC;go_wp2
  go_roundg (gk-1)
  case measure=>omega
  case rel=>exact ⟨i+1,_,by omega,by go_num,HX1.out,KB.out,by rw [List.length_set];exact HRl.out,PC.out⟩
end Go.Proofs.YtofhkmcllihgmaaGreat
/- The group delay: what is computed, plain facts. -/
set_option linter.unusedVariables false
namespace Go.Proofs.YtofhkmcllihgmaaGreat
open Go.RowKit Go.Front Go.Num Stab
def dlN(p q:List Rat):List Rat:=tX (ch (az (fY p) p) (az q q)) (ch (az (fY q) q) (az p p))
def dlD(p q:List Rat):List Rat:=ch (az p p) (az q q)
def ngV(l:List Rat):List Rat:=tz (l.map (·*((-1:Int):Rat)))
def pW(b a:List Rat):Int×List Rat×List Rat :=
 if VF b a then
  if tz b=[] then (3,[],[])
  else if 50<(tz b).length+(tz a).length then (12,[],[])
  else if evV (dU (dlD (tz b) (tz a)) (eO (dlN (tz b) (tz a)) (dlD (tz b) (tz a)))) ((1:Int):Rat)<0 then
   (0,ngV (dU (dlN (tz b) (tz a)) (eO (dlN (tz b) (tz a)) (dlD (tz b) (tz a)))),ngV (dU (dlD (tz b) (tz a)) (eO (dlN (tz b) (tz a)) (dlD (tz b) (tz a)))))
  else (0,dU (dlN (tz b) (tz a)) (eO (dlN (tz b) (tz a)) (dlD (tz b) (tz a))),dU (dlD (tz b) (tz a)) (eO (dlN (tz b) (tz a)) (dlD (tz b) (tz a))))
 else (2,[],[])
theorem uH(c:List Rat):(fbV c).length≤c.length:=by
 unfold fbV;refine Nat.le_trans (ak _) ?_;rw [List.length_map,List.length_range];exact Nat.le_refl _
theorem aH{p q:List Rat}{n:Nat}(hp:p.length≤n)(hq:q.length≤n):(az p q).length≤n:=by
 unfold az;refine Nat.le_trans (uH _) ?_;rw [List.length_map,List.length_range];have:=ak p;have:=ak q;omega
theorem ek{p q:List Rat}{n m:Nat}(hp:p.length≤n)(hq:q.length≤m):(ch p q).length≤n+m-1:=by
 unfold ch;refine Nat.le_trans (ak _) ?_;have:=ak p;have:=ak q;rw [List.length_map,List.length_range];omega
theorem rM{p q:List Rat}{n:Nat}(hp:p.length≤n)(hq:q.length≤n):(fj p q).length≤n:=by
 unfold fj;refine Nat.le_trans (ak _) ?_;rw [List.length_map,List.length_range];omega
theorem sB{p q:List Rat}{n:Nat}(hp:p.length≤n)(hq:q.length≤n):(tX p q).length≤n:=rM hp (by rw [List.length_map];exact hq)
theorem uM{p q:List Rat}(hp:p.length≤5)(hq:q.length≤5):(dlN p q).length≤9∧(dlD p q).length≤9:=by
 have h1:=aH (p:=fY p) (q:=p) (n:=5) (by rw [dw];exact hp) hp;have h2:=aH (p:=fY q) (q:=q) (n:=5) (by rw [dw];exact hq) hq;have h3:=aH hp hp;have h4:=aH hq hq;exact ⟨sB (ek h1 h4) (ek h2 h3),ek h3 h4⟩
theorem uO{S:Nat}{p q:List Rat}(hp:FrB S p)(hq:FrB S q)(hpl:p.length≤5)(hql:q.length≤5)(hS:S≤13) :
  FrB 30 (az p p)∧FrB 30 (az q q)∧FrB 31 (az (fY p) p)∧FrB 31 (az (fY q) q)∧FrB 62 (ch (az (fY p) p) (az q q))∧FrB 62 (ch (az (fY q) q) (az p p))∧FrB 125 (dlN p q)∧FrB 61 (dlD p q):=by
 have h1:FrB 30 (az p p):=(hp.cross hp (by omega) (by omega)).mono (by omega);have h2:FrB 30 (az q q):=(hq.cross hq (by omega) (by omega)).mono (by omega);have h3:FrB 31 (az (fY p) p):=((nB hp (by omega)).cross hp (by rw [dw];omega) (by omega)).mono (by omega);have h4:FrB 31 (az (fY q) q):=((nB hq (by omega)).cross hq (by rw [dw];omega) (by omega)).mono (by omega);have l1:=aH (p:=fY p) (q:=p) (n:=5) (by rw [dw];exact hpl) hpl;have l2:=aH (p:=fY q) (q:=q) (n:=5) (by rw [dw];exact hql) hql;have l3:=aH hpl hpl;have h5:FrB 62 (ch (az (fY p) p) (az q q)):=(h3.mul h2 (by omega)).mono (by omega);have h6:FrB 62 (ch (az (fY q) q) (az p p)):=(h4.mul h1 (by omega)).mono (by omega);exact ⟨h1,h2,h3,h4,h5,h6,h5.add h6.neg,(h1.mul h2 (by omega)).mono (by omega)⟩
theorem s0{p q:List Rat}(hp:tz p≠[])(hq:tz q≠[]):ch p q≠[]:=by
 intro h;obtain ⟨n,hn⟩:∃ n,(tz p).length=n+1:=⟨(tz p).length-1,by have:=List.length_pos_iff.2 hp;omega⟩;obtain ⟨m,hm⟩:∃ m,(tz q).length=m+1:=⟨(tz q).length-1,by have:=List.length_pos_iff.2 hq;omega⟩;have h1:seq (ch p q) (n+m)=0:=by rw [h];rfl
 rw [qS,lA,sk (by rw [←hn];exact Bd.seq _) (by rw [←hm];exact Bd.seq _)] at h1;have h2:(tz p).getD n 0≠0:=by rw [aD];exact fq hn
 have h3:(tz q).getD m 0≠0:=by rw [aD];exact fq hm
 rcases Rat.mul_eq_zero.1 h1 with h4|h4
 ·exact h2 h4
 ·exact h3 h4
theorem nJ{n:Nat}{f:Nat→Rat}{k:Nat}(hk:k<n)(h:f k≠0):0<sm n (fun i=>f i*f i):=by
 induction n with
 | zero=>omega
 | succ n ih =>
  show 0<sm n (fun i=>f i*f i)+f n*f n;have h0:=nK (n:=n) (f:=fun i=>f i*f i) (fun i _=>j3 _);have h1:=j3 (f n);rcases Nat.lt_or_ge k n with h2|h2
  ·have:=ih h2;grind
  ·obtain rfl:k=n:=by omega
   have h3:f k*f k≠0:=fun h3=>by
    rcases Rat.mul_eq_zero.1 h3 with h4|h4 <;> exact h h4
   grind
theorem rX{p:List Rat}(hp:tz p≠[]):az p p≠[]:=by
 intro h;obtain ⟨n,hn⟩:∃ n,(tz p).length=n+1:=⟨(tz p).length-1,by have:=List.length_pos_iff.2 hp;omega⟩;unfold az at h;rw [Nat.max_self] at h;have h1:fbV ((List.range (tz p).length).map (crE (tz p) (tz p)))=fbV (List.replicate (tz p).length 0):=by
  rw [h]
  symm
  unfold fbV;apply lK;intro x hx;obtain ⟨i,-,rfl⟩:=List.mem_map.1 hx;unfold fbS;exact qi (fun k _=>by rw [fJ];grind)
 have h2:=uG (tz p).length ((List.range (tz p).length).map (crE (tz p) (tz p))) (List.replicate (tz p).length 0) (by simp) (by simp) (fun i _=>by rw [←mz,←mz,h1]);have h3:((List.range (tz p).length).map (crE (tz p) (tz p))).getD 0 0=0:=by rw [h2,fJ]
 rw [l9,if_pos (by omega)] at h3;have h4:crE (tz p) (tz p) 0=sm (tz p).length (fun i=>(tz p).getD i 0*(tz p).getD i 0):=by
  unfold crE iQ;rw [if_pos rfl,Nat.sub_zero,Nat.min_self];exact sm_congr (fun i _=>by rw [Nat.add_zero])
 rw [h4] at h3;have h5:=nJ (n:=(tz p).length) (f:=fun i=>(tz p).getD i 0) (k:=n) (by omega) (by show (tz p).getD n 0≠0;rw [aD];exact fq hn);rw [h3] at h5;exact absurd h5 Rat.lt_irrefl
theorem oD{p:List Rat}(h:tz p≠[]):cO p≠[]:=fun h1=>by
 have h2:=cz p;rw [h1] at h2;exact h (List.length_eq_zero_iff.1 h2.symm)
theorem tp:∀ (f:Nat) (p q:List Rat),q.length≤f→tz q=q→tz p=p→(p≠[]∨q≠[])→kr f p q≠[]:=by
 intro f;induction f with
 | zero =>
  intro p q h _ _ h0;have hq:q=[]:=List.length_eq_zero_iff.1 (by omega);rw [hq,dp];rcases h0 with h0|h0
  ·exact h0
  ·exact absurd hq h0
 | succ f ih =>
  intro p q h hq hp h0;by_cases hq0:q=[]
  ·rw [hq0,dp];rcases h0 with h0|h0
   ·exact h0
   ·exact absurd hq0 h0
  ·rw [dI hq0];obtain ⟨g1,g2,-,-⟩:=ik p (q:=q) (by rw [hq];exact hq0);refine ih q _ ?_ (dP _) hq (Or.inl hq0);rw [cz,g2];rw [hq] at g1;omega
theorem tj{p q:List Rat}(h:tz p≠[]∨tz q≠[]):eO p q≠[]:=by
 unfold eO;refine tp _ _ _ (by rw [cz];exact Nat.le_refl _) (dP _) (dP _) ?_;rcases h with h|h
 ·exact Or.inl (oD h)
 ·exact Or.inr (oD h)
theorem tk:∀ (f:Nat) (p q:List Rat),tz q=q→tz p=p→tz (kr f p q)=kr f p q:=by
 intro f;induction f with
 | zero=>intro p q hq hp;exact hp
 | succ f ih =>
  intro p q hq hp;by_cases hq0:q=[]
  ·rw [hq0,dp];exact hp
  ·rw [dI hq0];exact ih q _ (dP _) hq
theorem ti(p q:List Rat):tz (eO p q)=eO p q:=tk _ _ _ (dP _) (dP _)
theorem uN{p q:List Rat}(hp:tz p≠[])(hq:tz q≠[]):tz (eO (dlN p q) (dlD p q))≠[]:=by
 rw [ti];refine tj (Or.inr ?_);have h1:tz (dlD p q)=dlD p q:=aV _;rw [h1];exact s0 (by rw [show tz (az p p)=az p p from aV _];exact rX hp) (by rw [show tz (az q q)=az q q from aV _];exact rX hq)
theorem pj(q:List Rat):∀ (f:Nat) (u p:List Rat),(je q f u p).2.length≤p.length:=by
 intro f;induction f with
 | zero=>intro u p;exact Nat.le_refl _
 | succ f ih =>
  intro u p;rw [show je q (f+1) u p=if q.length≤p.length then je q f (u.set (p.length-q.length) (aQ p / aQ q)) (eK p q) else (u,p) from rfl];split
  ·have h1:=ih (u.set (p.length-q.length) (aQ p / aQ q)) (eK p q);have h2:=hH p q;omega
  ·exact Nat.le_refl _
theorem rg:∀ (f:Nat) (a b:List Rat),(kr f a b).length≤max a.length b.length:=by
 intro f;induction f with
 | zero=>intro a b;show a.length≤_;omega
 | succ f ih =>
  intro a b;by_cases h:b=[]
  ·subst h;rw [dp];omega
  ·rw [dI h];have h1:=ih b (cO (eL a b));have h2:(cO (eL a b)).length≤a.length:=by
    rw [cz];refine Nat.le_trans (ak _) ?_;unfold eL;exact Nat.le_trans (pj _ _ _ _) (ak _)
   omega
theorem rf{p q:List Rat}{n:Nat}(hp:p.length≤n)(hq:q.length≤n):(eO p q).length≤n:=by
 have h:=rg (tz q).length (cO p) (cO q);rw [cz,cz] at h;have h1:=ak p;have h2:=ak q;unfold eO;omega
theorem oW{g:List Rat}(h:GcR 7440174 g):∃ X D,FrL X D g∧1≤X∧0<D∧D<W32 ^ X∧X≤2480057:=by
 obtain ⟨X,D,h1,h2,h3,h4,h5⟩:=h;exact ⟨X,D,h1,h2,h3,h4,by have:=GcR.small h5;omega⟩
theorem rB(q:List Rat):∀ (f:Nat) (u p:List Rat),(je q f u p).1.length=u.length:=by
 intro f;induction f with
 | zero=>intro u p;rfl
 | succ f ih =>
  intro u p;rw [show je q (f+1) u p=if q.length≤p.length then je q f (u.set (p.length-q.length) (aQ p / aQ q)) (eK p q) else (u,p) from rfl];split
  ·rw [ih,List.length_set]
  ·rfl
theorem lY(p q:List Rat):(dU p q).length≤p.length+1:=by
 unfold dU;refine Nat.le_trans (ak _) ?_;rw [rB,List.length_replicate];have:=ak p;omega
theorem o7{S T:Nat}{p:List Rat}{x:Rat}(hp:FrB S p)(hx:Sz T x)(hT:1≤T)(hn:p.length≤1000)(hT3:T≤1000)(hS3:S≤30000000):Sz (S+34000000) (evV p x):=by
 obtain ⟨hS,D,hD,hD2,hpf⟩:=hp;rw [←r5,←r7];have hl:(aM p).length≤1000:=by rw [aP];exact Nat.le_trans (ak p) hn
 have hw:∀ y ∈ aM p,Wz S y:=fD (fun x hx=>FrL.tz hpf x hx) hD;have h1:T*(aM p).length≤1000*1000:=Nat.mul_le_mul hT3 hl;have h2:(T+1)*(aM p).length=T*(aM p).length+(aM p).length:=Nat.succ_mul _ _;have hm:Sz S (aO p):=(dQ (fun x hx=>FrL.tz hpf x hx)).sz hS hD hD2;refine (hm.mul ((((r9 hw hx _ (Nat.le_refl _)).mono (S':=32000000) (by omega)).sz (by decide)).div (((mA hx).mono (S':=2000000) (by omega)).sz (by decide)))).mono (by omega)
theorem k6(s t:SH)(p q:List Rat)(S U:Nat)(w:World)(h:aI w s p)(k:aI w t q)(hp:FrB S p)(hq:FrB U q)(hn:p.length≤100)(hm:q.length≤100)(hSU:S+U≤8000000) :
  aq 145 [s.v,t.v] w SH.v (fun s w'=>bv w.heap.size w' s (ch p q)):=by
 obtain ⟨ao,n,c⟩:=s;obtain ⟨bo,m,d⟩:=t;have e1:=h.len;have e2:=k.len;simp only at e1 e2;exact n6 ao bo n c m d p q S U w (h.raw hp.sz (by omega)) (k.raw hq.sz (by omega)) (by omega) (by omega) hp hq hSU
theorem sL(s t:SH)(p q:List Rat)(S:Nat)(w:World)(h:aI w s p)(k:aI w t q)(zp:SzL S p)(zq:SzL S q)(hn:p.length≤200)(hm:q.length≤200)(hS:S≤8000000) :
  aq 148 [s.v,t.v] w SH.v (fun s w'=>bv w.heap.size w' s (tX p q)):=by
 obtain ⟨ao,n,c⟩:=s;obtain ⟨bo,m,d⟩:=t;have e1:=h.len;have e2:=k.len;simp only at e1 e2;exact qA ao bo n c m d p q w (h.raw zp (by omega)) (k.raw zq (by omega)) (by omega) (by omega) (zp.mono (by omega)) (zq.mono (by omega))
end Go.Proofs.YtofhkmcllihgmaaGreat
