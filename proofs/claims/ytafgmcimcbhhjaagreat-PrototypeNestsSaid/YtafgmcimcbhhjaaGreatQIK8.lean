/- Mul of package poly. -/
import Derived.Test.YtafgmcimcbhhjaaGreatQIK7
import Derived.Test.YtafgmcimcbhhjaaGreatQIK4
import Derived.Test.YtafgmcimcbhhjaaGreatQIK6
import Derived.Test.YtafgmcimcbhhjaaGreatQIK2
import Derived.Test.YtafgmcimcbhhjaaGreatQIM12
set_option linter.unusedVariables false
set_option maxHeartbeats 8000000
set_option maxRecDepth 8000
namespace Go.Proofs.YtafgmcimcbhhjaaGreat
open Go.RowKit Go.Front Go.Num Stab
attribute [local go_sem] XW.cell XW.frozen
theorem wU{S U:Nat}{a b:List Rat}(ha:∀ x ∈ a,Wz S x)(hb:∀ x ∈ b,Wz U x)(hl:a.length≤W32){i k:Nat}(hi:i≤a.length)(n:Nat):Wz (S+U+2) (pmS a b i k n):=by
 have ga:∀ i,Wz S (a.getD i 0):=fun i=>(FrL.at (D:=1) (fun x hx=>Fr.one (ha x hx)) i).wz
 have gb:∀ i,Wz U (b.getD i 0):=fun i=>(FrL.at (D:=1) (fun x hx=>Fr.one (hb x hx)) i).wz
 unfold pmS;refine Wz.add (S:=S+U+1) (Wz.sm (fun j _=>(ga j).mul ?_) (by omega)) ?_
 ·unfold shn;split
  ·exact gb _
  ·exact Wz.zero _
 ·split
  ·exact ((ga _).mul (gb _)).mono (by omega)
  ·exact Wz.zero _
theorem yE{p q:List Rat}{P Q:Nat}(hP:(ax p).length=P)(hQ:(ax q).length=Q):tz (((List.range (P+Q-1)).map (ap (ax p) (seq (ax q)))).map (·*(aK p*aK q)))=ar p q:=by
 unfold ar;rw [←hP,←hQ,aD,aD,List.map_map]
 congr 2
 funext i
 show ap (ax p) (seq (ax q)) i*(aK p*aK q)=ap (tz p) (seq (tz q)) i;have e1:seq p=fun n=>aK p*seq (ax p) n:=funext (cX p)
 have e2:seq q=fun n=>aK q*seq (ax q) n:=funext (cX q)
 rw [fT,fT,aT,aT,e1,e2,eO,zt];grind
theorem sr(ao bo:Option Addr)(n c m d:Nat)(p q:List Rat)(S U D E:Nat)(w:World)(h:cV w ⟨ao,n,c⟩ p)(k:cV w ⟨bo,m,d⟩ q)(hn:n≤1000)(hm:m≤1000)
 (hS:1≤S)(hU:1≤U)(hD:0<D)(hD2:D<W32 ^ S)(hE:0<E)(hE2:E<W32 ^ U)(hp:FrL S D p)(hq:FrL U E q)(hSU:S+U≤8000000) :
  aq 100 [.slice ao n c,.slice bo m d] w SH.v (fun s w'=>bR w.heap.size w' s (ar p q)):=by
 have H:=Hi h;have K:=Hi k;have HX:=Hi (Ext.refl w);have HPF:=Hi hp;have HQF:=Hi hq;have hn2:(tz p).length≤n:=by have:=h.len;have h2:=ai p;simp only at this;omega
 have hm2:(tz q).length≤m:=by have:=k.len;have h2:=ai q;simp only at this;omega
 clear h k hp hq;unfold aq;go_enter Tryz.func100,Tryz.ntmps100
 go_wp2_with fail
 refine cM (eK ao n c p S D _ (H.out.ext HX.out) (by omega) hS (by omega) hD hD2 HPF.out) fun x1 w1 hE G1=>?_
 replace HX:=hE.tr HX;have hs_w1:=hE.size;clear hE;obtain ⟨xs,xa⟩:=x1;have HXS:=Hi G1.out.1;have HXA:=Hi G1.out.2;clear G1;simp only [MT] at *
 go_upto_region 2 with fail
 refine nmA ?_;intro w2 hE B5 hz_w2 hr_w2;refine mV3 hE ?_ HX HXS HXA;clear HX HXS HXA;intro HX HXS HXA;have hs_w2:=hE.size;clear hE;replace b_B5:=bX3 B5
 go_wp2_with fail
 refine cM (eK bo m d q U E _ (K.out.ext HX.out) (by omega) hU (by omega) hE hE2 HQF.out) fun x3 w3 hE G3=>?_
 refine mV4 hE ?_ B5 HX HXS HXA;clear B5 HX HXS HXA;intro B5 HX HXS HXA;have hs_w3:=hE.size;clear hE;replace b_B5:=bX3 B5;obtain ⟨ys,ya⟩:=x3;have HYS:=Hi G3.out.1;have HYA:=Hi G3.out.2;clear G3;simp only [MT] at *
 go_upto_region 3 with fail
 refine nmA ?_;intro w4 hE B7 hz_w4 hr_w4;refine mV6 hE ?_ B5 HX HXS HXA HYS HYA;clear B5 HX HXS HXA HYS HYA;intro B5 HX HXS HXA HYS HYA;have hs_w4:=hE.size;clear hE;replace b_B5:=bX3 B5;replace b_B7:=bX3 B7;obtain ⟨La,hLa,rfl,hra⟩:=HXA.out;obtain ⟨Lb,hLb,rfl,hrb⟩:=HYA.out;obtain ⟨P,hP⟩:∃ P,(ax p).length=P:=⟨_,rfl⟩;obtain ⟨Q,hQ⟩:∃ Q,(ax q).length=Q:=⟨_,rfl⟩;have hPn:P≤n:=by rw [←hP,aD];exact hn2
 have hQm:Q≤m:=by rw [←hQ,aD];exact hm2
 rw [hP,hQ];have LA:=Hi (hra.can hP (nXd _) (by omega));have LB:=Hi (hrb.can hQ (nXd _) (by omega));have WA:Hid (∀ x ∈ ax p,Wz S x):=Hi (dM (fun x hx=>HPF.out.tz x hx) hD);have WB:Hid (∀ x ∈ ax q,Wz U x):=Hi (dM (fun x hx=>HQF.out.tz x hx) hE);have ZS:Hid (Sz S (aK p)):=Hi ((eU (fun x hx=>HPF.out.tz x hx)).sz hS hD hD2);have ZT:Hid (Sz U (aK q)):=Hi ((eU (fun x hx=>HQF.out.tz x hx)).sz hU hE hE2);have HV:Hid (ar p q=tz (((List.range (P+Q-1)).map (ap (ax p) (seq (ax q)))).map (·*(aK p*aK q)))):=Hi (yE hP hQ).symm;obtain ⟨a,ha⟩:∃ a,a=ax p:=⟨_,rfl⟩;obtain ⟨b,hb⟩:∃ b,b=ax q:=⟨_,rfl⟩;have HN1:Hid (P=0∨Q=0→ar p q=[]):=Hi (fun h=>vI (by
  rcases h with h|h
  ·left;rw [h,aD] at hP;exact nXi.1 hP
  ·right;rw [h,aD] at hQ;exact nXi.1 hQ))
 rw [←ha] at LA WA HV hP;rw [←hb] at LB WB HV hQ;have HPl:=Hi hP;have HQl:=Hi hQ;clear hra hrb hLa hLb ha hb hP hQ HPF HQF;clear HXA;clear HYA;by_cases hP0:P=0
 case pos =>
  subst hP0;have hv:ar p q=[]:=HN1.out (Or.inl rfl);go_wp2
  go_ret
  exact ⟨⟨none,0,0⟩,rfl,HX.out,bR.nil _ _⟩
 have hPb:((P:Int) == 0)=false:=by rw [nXr];omega
 by_cases hQ0:Q=0
 case pos =>
  subst hQ0;have hv:ar p q=[]:=HN1.out (Or.inr rfl);go_wp2
  go_ret
  exact ⟨⟨none,0,0⟩,rfl,HX.out,bR.nil _ _⟩
 have hQb:((Q:Int) == 0)=false:=by rw [nXr];omega
 obtain ⟨M,hM⟩:∃ M,P+Q=M+1:=⟨P+Q-1,by omega⟩;rw [show P+Q-1=M by omega] at HV;have hMi:(P:Int)+Q-1=M:=by omega
 obtain ⟨b5,hb5⟩:∃ b5,b5=w1.heap.size:=⟨_,rfl⟩;obtain ⟨b7,hb7⟩:∃ b7,b7=w3.heap.size:=⟨_,rfl⟩;rw [←hb5] at B5 ⊢;rw [←hb7] at B7 ⊢;have hw4:w.heap.size≤w4.heap.size:=by omega
 clear hb5 hb7 b_B5 b_B7;obtain ⟨aa,haa⟩:∃ aa,aa=some (⟨La,0,none⟩:Addr):=⟨_,rfl⟩;obtain ⟨bb,hbb⟩:∃ bb,bb=some (⟨Lb,0,none⟩:Addr):=⟨_,rfl⟩;rw [←haa] at LA ⊢;rw [←hbb] at LB ⊢;have LA4:=LA;have LB4:=LB;have XS4:=HXS;have YS4:=HYS;have B54:=B5;have B74:=B7;have HX0:=HX;have HX4:=Hi (Ext.refl w4);simp only [SH.v];clear haa hbb;clear LA;clear LB;clear HXS;clear HYS
 (try clear b_B5);clear B5
 (try clear b_B7);clear B7
 clear HX
 go_wp2_with fail
 refine cM (mj M _ (by omega)) fun x5 w5 hE G5=>?_
 replace HX4:=hE.tr HX4;have hs_w5:=hE.size;clear hE;obtain ⟨L,hL,rfl,hrl⟩:=G5.out;have HL:Hid (bg w5 L (List.replicate M 0)):=Hi hrl;have hL4:w4.heap.size≤L:=hL;clear G5 hrl hL;rw [nXv];simp only [SH.v];go_wp2
 go_loopg [41] P (fun g v wr=>∃ (i:Nat) (os:List Rat),i+g=P∧v=.int .i64 (i:Nat)∧Ext w4 wr∧bg wr L os∧os.length=M∧∀ n,n<M→os.getD n 0=pmS a b i 0 n)
 case atStart=>exact ⟨0,_,by omega,rfl,HX4.out,HL.out,by simp,fun n hn=>by rw [vh];simp [hn]⟩
 case round =>
  obtain ⟨i,os,hi,rfl,g1,g2,g3,g4⟩:=hrel;clear HX4 HL;have HX4:=Hi g1;have HL:=Hi g2;have HOl:=Hi g3;have HOv:=Hi g4;have hLlt:=g2.lt;have hw4r:=g1.size;clear g1 g2 g3 g4;by_cases h0:gk=0
  case pos =>
   subst h0;obtain rfl:i=P:=by omega
   have hin:¬ (i:Int)<i:=by omega
   have HXw:=Hi (HX0.out.trans HX4.out);have B5:=Hi (HX4.out.block B54.out);have B7:=Hi (HX4.out.block B74.out);have HOe:Hid (os=(List.range M).map (ap a (seq b))):=Hi (BH HOl.out (fun n hn=>by rw [HOv.out n hn,←HPl.out,yi]));have HSz:Hid (SzL 8000002 os):=Hi (fun x hx=>by
    obtain ⟨n,hn,rfl⟩:=dD hx;rw [HOv.out n (by rw [←HOl.out];exact hn)];exact ((wU WA.out WB.out (by rw [HPl.out];exact nXe (by omega) (show 1000≤W32 by decide)) (by rw [HPl.out];exact nXd _) n).mono (by omega)).sz (by decide))
   replace b_B5:=bX3 B5;replace b_B7:=bX3 B7
   go_wp2_with fail
   refine cM (aP xs ys (aK p) (aK q) _ ((XS4.out.ext HX4.out).raw ZS.out (by omega)) ((YS4.out.ext HX4.out).raw ZT.out (by omega))) fun x20 w20 hE G20=>?_
   refine mV5 hE ?_ HX4 HL HXw B5 B7;clear HX4 HL HXw B5 B7;intro HX4 HL HXw B5 B7;have hs_w20:=hE.size;clear hE;replace b_B5:=bX3 B5;replace b_B7:=bX3 B7
   go_wp2_with fail
   refine cM (br (some ⟨L,0,none⟩) M M os x20 (aK p*aK q) _ ((HL.out.can HOl.out (nXd _) (by omega)).raw HSz.out (by decide)) (G20.out.raw (ZS.out.mul ZT.out) (by omega)) (by omega) (HSz.out.mono (by decide)) ((ZS.out.mul ZT.out).mono (by omega))) fun x21 w21 hE G21=>?_
   refine mV6 hE ?_ G20 HX4 HL HXw B5 B7;clear G20 HX4 HL HXw B5 B7;intro G20 HX4 HL HXw B5 B7;have hs_w21:=hE.size;clear hE;replace b_B5:=bX3 B5;replace b_B7:=bX3 B7;go_wp2
   go_ret
   exact ⟨x21,rfl,HXw.out,by rw [HV.out,←HOe.out];exact G21.out.mono (by omega)⟩
  obtain ⟨g0,rfl⟩:∃ g0,gk=g0+1:=⟨gk-1,by omega⟩;have hin:(i:Int)<P:=by omega
  obtain ⟨ba,oa,r,hao,hbl,⟨hc1,hc2,hc3⟩,hPc⟩:=(LA4.out.ext HX4.out).celx (k:=i) (by omega);obtain ⟨rneg,ra,rn,rc,rb,rm,rd⟩:=r;simp only at hc1 hc2 hc3;have HC:=Hi hPc;clear hPc h0;subst hao
  go_upto_region 9 with fail
  clear hc1 hc2 hc3;refine nmA ?_;intro y8 hE B11 hz_y8 hr_y8;refine mV3 hE ?_ HX4 HL HC;clear HX4 HL HC;intro HX4 HL HC;have hs_y8:=hE.size;clear hE;replace b_B11:=bX3 B11;obtain ⟨b11,hb11⟩:∃ b11,b11=wr.heap.size:=⟨_,rfl⟩;have hbL:b11≠L:=by omega
  have hb4:w4.heap.size≤b11:=by omega
  rw [←hb11] at B11 ⊢;clear hb11 b_B11 hbl;go_wp2
  go_loopg [48] Q (fun g v wr=>∃ (k:Nat) (os:List Rat),k+g=Q∧v=.int .i64 (k:Nat)∧Ext w4 wr∧bg wr L os∧os.length=M∧(∀ n,n<M→os.getD n 0=pmS a b i k n)∧av wr ⟨rneg,ra,rn,rc,rb,rm,rd⟩ (a.getD i 0)∧wr.heap[b11]?=some (.cells #[.bool rneg,.slice ra rn rc,.slice rb rm rd] 34 (0,0)))
  case atStart=>exact ⟨0,os,by omega,rfl,HX4.out,HL.out,HOl.out,HOv.out,HC.out,B11.out⟩
  case round =>
   obtain ⟨k,os,hk,rfl,g1,g2,g3,g4,g5,g6⟩:=hrel;clear HX4 HL HOl HOv HC B11;have HX4:=Hi g1;have HL:=Hi g2;have HOl:=Hi g3;have HOv:=Hi g4;have HC:=Hi g5;have B11:=Hi g6;have hLlt:=g2.lt;have hw4r:=g1.size;clear g1 g2 g3 g4 g5 g6;replace b_B11:=bX3 B11;by_cases h1:gk=0
   case pos =>
    subst h1;obtain rfl:k=Q:=by omega
    have hkn:¬ (k:Int)<k:=by omega
    go_wp2
    go_roundg g0
    case measure=>omega
    case rel=>exact ⟨i+1,os,by omega,by go_num,HX4.out,HL.out,HOl.out,fun n hn=>by rw [vi HQl.out];exact HOv.out n hn⟩
   have hkQ:(k:Int)<Q:=by omega
   obtain ⟨bb',ob,s,hbo,hbl,⟨kc1,kc2,kc3⟩,hQc⟩:=(LB4.out.ext HX4.out).celx (k:=k) (by omega);obtain ⟨sneg,sa,sn,sc,sb,sm',sd⟩:=s;simp only at kc1 kc2 kc3;have HD':=Hi hQc;clear hQc h1;subst hbo
   go_upto_region 12 with fail
   clear kc1 kc2 kc3;refine nmA ?_;intro y11 hE B13 hz_y11 hr_y11;refine mV5 hE ?_ HD' HX4 HL HC B11;clear HD' HX4 HL HC B11;intro HD' HX4 HL HC B11;have hs_y11:=hE.size;clear hE;replace b_B11:=bX3 B11;replace b_B13:=bX3 B13;obtain ⟨b13,hb13⟩:∃ b13,b13=wr.heap.size:=⟨_,rfl⟩;have hb13L:b13≠L:=by omega
   have hb134:w4.heap.size≤b13:=by omega
   rw [←hb13] at B13 ⊢;clear hb13 b_B13 hbl;replace b_B11:=bX3 B11;replace b_B13:=bX3 B13;obtain ⟨j,hj⟩:∃ j,j=i+k:=⟨_,rfl⟩;have hjM:j<M:=by omega
   have hji:(i:Int)+k=j:=by omega
   obtain ⟨v,hv⟩:∃ v,v=os.getD j 0:=⟨_,rfl⟩;have Hv:=Hi hv;have Hj:=Hi hj;have hlW:a.length≤W32:=by rw [HPl.out];exact nXe (by omega) (show 1000≤W32 by decide)
   have ZO:Hid (Sz (S+U+2) v):=Hi (by rw [hv,HOv.out j hjM];exact (wU WA.out WB.out hlW (by rw [HPl.out];omega) j).sz (by omega));have ZP:Hid (Sz S (a.getD i 0)):=Hi ((WA.out _ (el (by rw [HPl.out];omega))).sz hS);have ZQ:Hid (Sz U (b.getD k 0)):=Hi ((WB.out _ (el (by rw [HQl.out];omega))).sz hU);obtain ⟨ro,⟨f1,f2,f3⟩,hro⟩:=bg.cells HL.out (k:=j) (by rw [HOl.out];exact hjM);rw [←hv] at hro;have RO:=Hi hro;have hfz:=bg.frozen HL.out;have hLl:=bg.lt HL.out;obtain ⟨on,oa',ol,oc,ob',om,od⟩:=ro;simp only at f1 f2 f3;clear hj hv hro
   go_upto_region 12 with fail
   refine wpG 15 (fun opIx=>match opIx with
    | 12=>.spec RH default RH.v (fun s w'=>av w' s (a.getD i 0*b.getD k 0))
    | 13=>.spec RH default RH.v (fun s w'=>av w' s (v+a.getD i 0*b.getD k 0))
    | _=>.quiet) (fun|13=>[12]|_=>[]) fun w0 he0 hz0 hc0 hf0=>?_
   refine wps he0.out rfl rfl (fun w1 hW hG=>?_) fun x20=>?_
   ·exact spc [RH.v ⟨rneg,ra,rn,rc,rb,rm,rd⟩,RH.v ⟨sneg,sa,sn,sc,sb,sm',sd⟩] Tryz.func85 (aP _ _ _ _ _ ((HC.out.ext hW).raw ZP.out (by omega)) ((HD'.out.ext hW).raw ZQ.out (by omega)))
   refine qZ ?_;refine wps he0.out rfl rfl (fun w1 hW hG=>?_) fun x21=>?_
   ·have g20:=(hG 12 (by decide):aw _ _).get fun _ e g=>g.ext e
    exact spc [RH.v ⟨on,oa',ol,oc,ob',om,od⟩,x20.v] Tryz.func118 (cK _ x20 _ _ _ ((RO.out.ext hW).raw ZO.out (by omega)) (g20.raw (ZP.out.mul ZQ.out) (by omega)))
   refine qZ ?_;refine aj ?_;intro w12 hI;have hE:=he0.out.trans hI.ext;have G20:=gT (hI.facts 12);have G21:=gT (hI.facts 13);clear hI he0 hz0 hc0 hf0;refine mV7 hE ?_ B13 HX4 HL B11 HC HD' RO;clear B13 HX4 HL B11 HC HD' RO;intro B13 HX4 HL B11 HC HD' RO;have hs_w12:=hE.size;clear hE;replace b_B11:=bX3 B11;replace b_B13:=bX3 B13;simp only [pD];clear f1 f2 f3 hfz hLl;obtain ⟨r2,⟨f1,f2,f3⟩,-⟩:=bg.cells HL.out (k:=j) (by rw [HOl.out];exact hjM);have hfz:=bg.frozen HL.out
   go_upto_region 13 with fail
   refine gC (k:=j) HL.out (by rw [HOl.out];exact hjM) G21.out ?_;rintro y13 ⟨cs,T⟩ TN;have HOv2:=Hi (uW HOl.out HOv.out (by rw [←Hj.out];exact hjM));rw [←Hj.out,←Hv.out] at HOv2;clear f1 f2 f3 hfz;clear HL;replace HX4:=Hi (T.ext HX4.out (by omega));replace HC:=Hi (HC.out.keep T.keep);replace B11:=Hi (T.rest _ _ (by omega) B11.out);replace HD':=Hi (HD'.out.keep T.keep);replace B13:=Hi (T.rest _ _ (by omega) B13.out);replace RO:=Hi (RO.out.keep T.keep);replace G20:=Hi (G20.out.keep T.keep);replace G21:=Hi (G21.out.keep T.keep);have hs_y13:=nle T.size;have hr_y13:=nle T.size.symm;clear T;replace b_B11:=bX3 B11;replace b_B13:=bX3 B13;have HL:=Hi TN;clear TN;go_wp2
   go_roundg (gk-1)
   case measure=>omega
   case rel=>exact ⟨k+1,_,by omega,by go_num,HX4.out,HL.out,by rw [nXn];exact HOl.out,HOv2.out,HC.out,B11.out⟩
theorem d9(ao bo:Option Addr)(n c m d:Nat)(p q:List Rat)(S U:Nat)(w:World)(h:cV w ⟨ao,n,c⟩ p)(k:cV w ⟨bo,m,d⟩ q)(hn:n≤1000)(hm:m≤1000)(hp:FrB S p)(hq:FrB U q)(hSU:S+U≤8000000) :
  aq 100 [.slice ao n c,.slice bo m d] w SH.v (fun s w'=>bR w.heap.size w' s (ar p q)):=by
 obtain ⟨h0,D,h1,h2,h3⟩:=hp;obtain ⟨k0,E,k1,k2,k3⟩:=hq;exact sr ao bo n c m d p q S U D E w h k hn hm h0 k0 h1 h2 k1 k2 h3 k3 hSU
structure FH where
 b:SH
 a:SH
abbrev FH.v(f:FH):Value:=.agg #[f.b.v,f.a.v]
def uF(w:World)(f:FH)(b a:List Rat):Prop:=aG w f.b b∧aG w f.a a
theorem uF.ext{w w':World}{f:FH}{b a:List Rat}(h:uF w f b a)(he:Ext w w'):uF w' f b a:=⟨h.1.ext he,h.2.ext he⟩
instance {w w':World} {f:FH} {b a:List Rat}:Go.Front.Mv w w' (uF w f b a) (uF w' f b a):=⟨fun e h=>uF.ext h e⟩

theorem sD{w1:World}{b:Nat}{T:TypeId}{c0 c1 v0 v1:Value}{F:World→Prop}(hb:w1.heap[b]?=some (.cells #[c0,c1] T (0,0)))(hn:#[c0,c1].toList.all gv=true)(h:∀ w2,fj w1 b T #[v0,v1] w2→F w2) :
  F ((w1.setCell ⟨b,0,none⟩ v0).setCell ⟨b,1,none⟩ v1) :=
 h _ (fj.of (nXa.1 hb).1 (ah hb hn) ((bh.setCell w1 ⟨b,0,none⟩ v0).trans (bh.setCell _ ⟨b,1,none⟩ v1)) (by simp [World.setCell]) (aL (aL hb 0 v0) 1 v1))
abbrev FE(x:FH×Int):Value:=.tuple #[x.1.v,.int .i64 x.2]
def FEP(v:Int×List Rat×List Rat)(x:FH×Int)(w:World):Prop:=x.2=v.1∧uF w x.1 v.2.1 v.2.2
theorem wE(w:World):uF w ⟨⟨none,0,0⟩,⟨none,0,0⟩⟩ [] []:=⟨(bR.nil 0 w).can,(bR.nil 0 w).can⟩
theorem aG.put2{w1 w2:World}{s:SH}{qs:List Rat}{B:Nat}{T T':TypeId}{a a':Option Addr}{n c n' c':Nat}{cs:Array Value}(h:aG w1 s qs)(hB:w1.heap[B]?=some (.cells #[.slice a n c,.slice a' n' c'] T' (0,0)))(T2:fj w1 B T cs w2):aG w2 s qs:=by
 obtain ⟨rs,h1,h2⟩:=h;refine ⟨rs,⟨h1.len,h1.le,h1.max,?_⟩,h2.keep T2.keep⟩;rcases h1.at' with h0|⟨b,off,e,hc⟩
 ·exact Or.inl h0
 ·rcases Nat.eq_zero_or_pos s.n with h0|h0
  ·exact Or.inl h0
  ·have hb:b≠B:=by
    intro hb;subst hb;have h3:=(hc 0 h0).1;rw [Nat.zero_mul,Nat.add_zero,ab hB] at h3;rcases off with _|_|off <;> simp at h3
   exact Or.inr ⟨b,off,e,fun k hk=>⟨T2.cell hb (hc k hk).1,T2.cell hb (hc k hk).2.1,T2.cell hb (hc k hk).2.2⟩⟩
end Go.Proofs.YtafgmcimcbhhjaaGreat
/- The group delay: what is computed, plain facts. -/
namespace Go.Proofs.YtafgmcimcbhhjaaGreat
open Go.RowKit Go.Front Go.Num Stab
theorem aS{p q:List Rat}{n m:Nat}(hp:p.length≤n)(hq:q.length≤m):(ar p q).length≤n+m-1:=by
 unfold ar;refine nXe (ai _) ?_;have:=ai p;have:=ai q;rw [nXk,List.length_range];omega
theorem fg{p q:List Rat}{n:Nat}(hp:p.length≤n)(hq:q.length≤n):(bf p q).length≤n:=by
 unfold bf;refine nXe (ai _) ?_;rw [nXk,List.length_range];omega
theorem sub_len{p q:List Rat}{n:Nat}(hp:p.length≤n)(hq:q.length≤n):(subV p q).length≤n:=fg hp (by rw [nXk];exact hq)
theorem iT(s t:SH)(p q:List Rat)(S U:Nat)(w:World)(h:aG w s p)(k:aG w t q)(hp:FrB S p)(hq:FrB U q)(hn:p.length≤100)(hm:q.length≤100)(hSU:S+U≤8000000) :
  aq 100 [s.v,t.v] w SH.v (fun s w'=>bR w.heap.size w' s (ar p q)):=by
 obtain ⟨ao,n,c⟩:=s;obtain ⟨bo,m,d⟩:=t;have e1:=h.len;have e2:=k.len;simp only at e1 e2;exact d9 ao bo n c m d p q S U w (h.raw hp.sz (by omega)) (k.raw hq.sz (by omega)) (by omega) (by omega) hp hq hSU
theorem nQ(s t:SH)(p q:List Rat)(S:Nat)(w:World)(h:aG w s p)(k:aG w t q)(zp:SzL S p)(zq:SzL S q)(hn:p.length≤200)(hm:q.length≤200)(hS:S≤8000000) :
  aq 116 [s.v,t.v] w SH.v (fun s w'=>bR w.heap.size w' s (subV p q)):=by
 obtain ⟨ao,n,c⟩:=s;obtain ⟨bo,m,d⟩:=t;have e1:=h.len;have e2:=k.len;simp only at e1 e2;exact u6 ao bo n c m d p q w (h.raw zp (by omega)) (k.raw zq (by omega)) (by omega) (by omega) (zp.mono (by omega)) (zq.mono (by omega))
end Go.Proofs.YtafgmcimcbhhjaaGreat
/- Powers of a linear polynomial: package poly. -/
namespace Go.Proofs.YtafgmcimcbhhjaaGreat
open Go.RowKit Go.Front Go.Num Stab
attribute [local go_sem] XW.cell XW.frozen
def bE(p:List Rat):Nat→List Rat
 | 0=>[((1:Int):Rat)]
 | k+1=>ar (bE p k) p
theorem de{p:List Rat}(hl:p.length≤2)(k:Nat):(bE p k).length≤k+1:=by
 induction k with
 | zero=>exact nXd _
 | succ k ih=>exact nXe (aS ih hl) (by omega)
theorem iq:FrB 3 [((1:Int):Rat)]:=FrB.of (k:=1) (n:=1) (fun x hx=>by rw [nXt.1 hx];exact Sz.int (z:=1) (by decide)) (by decide)
theorem cL{S:Nat}{p:List Rat}(hf:FrB S p)(hl:p.length≤2)(k:Nat)(hk:k≤1000):FrB (3+k*(S+1)) (bE p k):=by
 induction k with
 | zero=>rw [Nat.zero_mul];exact iq
 | succ k ih =>
  have h:=(ih (by omega)).mul hf (by have:=de hl k;omega);exact h.mono (by rw [nXx];omega)
theorem o5(s:SH)(p:List Rat)(k S:Nat)(w:World)(h:aG w s p)(hk:k≤48)(hl:p.length≤2)(hf:FrB S p)(hS:S≤10000) :
  aq 166 [s.v,.int .i64 (k:Nat)] w RF (fun x w'=>x.2=0∧aG w' x.1 (bE p k)):=by
 obtain ⟨pa,pn,pc⟩:=s;have H:=Hi h;have HX:=Hi (Ext.refl w);have hpn:=h.len;simp only at hpn;have hpn2:pn≤2:=by omega
 have HF:=Hi hf;have HL:=Hi hl;have h1:¬ (k:Int)<0:=by omega
 have h2:¬ (48:Int)<k:=by omega
 have htl:(tz p).length≤2:=nXe (ai p) hl;obtain ⟨dg,hdg⟩:∃ dg:Int,dg=((tz p).length:Int)-1:=⟨_,rfl⟩;obtain ⟨pr,hpr⟩:∃ pr:Int,(k:Int)*dg=pr:=⟨_,rfl⟩;have hp1:pr≤48∧-48≤pr:=by
  rcases (show dg=-1∨dg=0∨dg=1 by omega) with h|h|h <;> rw [h] at hpr <;> omega
 obtain ⟨hp1,hp2⟩:=hp1;have HD:=Hi hdg;clear h hpn hf hl htl hdg;unfold aq;simp only [SH.v];go_enter Tryz.func166,Tryz.ntmps166
 go_wp2_with fail
 refine cM (cO pa pn pc p _ (H.out.raw HF.out.sz (by omega))) fun x2 w2 hE _=>?_
 refine mV2 hE ?_ H HX;clear H HX;intro H HX;have hs_w2:=hE.size;clear hE;rw [←HD.out]
 go_wp2_with fail
 refine cM (aI 1 _ (by decide) (by decide)) fun x3 w3 hE G3=>?_
 refine mV2 hE ?_ H HX;clear H HX;intro H HX;have hs_w3:=hE.size;clear hE
 go_upto_region 4 with fail
 refine nmA ?_;intro w4 hE B4 hz_w4 hr_w4;refine mV3 hE ?_ G3 H HX;clear G3 H HX;intro G3 H HX;have hs_w4:=hE.size;clear hE;replace b_B4:=bX3 B4;have L0:Hid (aG w4 ⟨some ⟨w3.heap.size,0,none⟩,1,1⟩ (bE p 0)):=Hi (nt B4.out G3.out)
 (try clear b_B4);clear B4
 clear G3;clear HD hpr hp1 hp2;go_wp2
 go_loopg [6,23] k (fun g r i wr=>∃ (j:Nat) (s:SH),j+g=k∧r=s.v∧i=.int .i64 (j:Nat)∧Ext w wr∧aG wr ⟨pa,pn,pc⟩ p∧aG wr s (bE p j))
 case atStart=>exact ⟨0,⟨_,_,_⟩,by omega,rfl,rfl,HX.out,H.out,L0.out⟩
 case round =>
  obtain ⟨j,⟨sa,sn,sc⟩,hj,rfl,rfl,g1,g2,g3⟩:=hrel;clear HX H L0;have HX:=Hi g1;have H:=Hi g2;have L0:=Hi g3;have hsn:=g3.len;have hsl:=de HL.out j;simp only at hsn;have hsn2:sn≤49:=by omega
  clear g1 g2 g3 hsn hsl;simp only [SH.v];by_cases h0:gk=0
  case pos =>
   subst h0;obtain rfl:j=k:=by omega
   go_wp2;exact bodyPost_ret (v:=RF (⟨sa,sn,sc⟩,0)) (by simp [results,Tryz.results166,go_sem,RF]) rfl ⟨(⟨sa,sn,sc⟩,0),rfl,HX.out,rfl,L0.out⟩
  have hjk:(j:Int)<k:=by omega
  have FJ:Hid (FrB 600000 (bE p j)):=Hi ((cL HF.out HL.out j (by omega)).mono (by have:=nXw (show j≤48 by omega) (show S+1≤10001 by omega);omega))
  go_wp2_with fail
  refine cM ((d9 sa pa sn sc pn pc (bE p j) p 600000 S _ (L0.out.raw FJ.out.sz (by decide)) (H.out.raw HF.out.sz (by omega)) (by omega) (by omega) FJ.out HF.out (by omega)).weak (ψ:=fun x w'=>aG w' x (bE p (j+1))) (fun _ _ _ h=>h.can)) fun x5 w5 hE G5=>?_
  refine mV3 hE ?_ HX H L0;clear HX H L0;intro HX H L0;have hs_w5:=hE.size;clear hE;obtain ⟨xa,xn,xc⟩:=x5;simp only [SH.v];go_wp2
  go_roundg (gk-1)
  case measure=>omega
  case rel=>exact ⟨j+1,⟨xa,xn,xc⟩,by omega,rfl,by go_num,HX.out,H.out,G5.out⟩
end Go.Proofs.YtafgmcimcbhhjaaGreat
/- Tt -/
namespace Go.Proofs.YtafgmcimcbhhjaaGreat
open Go.RowKit Go.Front Go.Num
def Cq:List (List Int):=[[1],
 [0,1],
 [-1,0,2],
 [0,-3,0,4],
 [1,0,-8,0,8],
 [0,5,0,-20,0,16],
 [-1,0,18,0,-48,0,32],
 [0,-7,0,56,0,-112,0,64],
 [1,0,-32,0,160,0,-256,0,128],
 [0,9,0,-120,0,432,0,-576,0,256],
 [-1,0,50,0,-400,0,1120,0,-1280,0,512],
 [0,-11,0,220,0,-1232,0,2816,0,-2816,0,1024],
 [1,0,-72,0,840,0,-3584,0,6912,0,-6144,0,2048],
 [0,13,0,-364,0,2912,0,-9984,0,16640,0,-13312,0,4096],
 [-1,0,98,0,-1568,0,9408,0,-26880,0,39424,0,-28672,0,8192],
 [0,-15,0,560,0,-6048,0,28800,0,-70400,0,92160,0,-61440,0,16384],
 [1,0,-128,0,2688,0,-21504,0,84480,0,-180224,0,212992,0,-131072,0,32768],
 [0,17,0,-816,0,11424,0,-71808,0,239360,0,-452608,0,487424,0,-278528,0,65536],
 [-1,0,162,0,-4320,0,44352,0,-228096,0,658944,0,-1118208,0,1105920,0,-589824,0,131072],
 [0,-19,0,1140,0,-20064,0,160512,0,-695552,0,1770496,0,-2723840,0,2490368,0,-1245184,0,262144],
 [1,0,-200,0,6600,0,-84480,0,549120,0,-2050048,0,4659200,0,-6553600,0,5570560,0,-2621440,0,524288],
 [0,21,0,-1540,0,33264,0,-329472,0,1793792,0,-5870592,0,12042240,0,-15597568,0,12386304,0,-5505024,0,1048576],
 [-1,0,242,0,-9680,0,151008,0,-1208064,0,5637632,0,-16400384,0,30638080,0,-36765696,0,27394048,0,-11534336,0,2097152],
 [0,-23,0,2024,0,-52624,0,631488,0,-4209920,0,17145856,0,-44843008,0,76873728,0,-85917696,0,60293120,0,-24117248,0,4194304],
 [1,0,-288,0,13728,0,-256256,0,2471040,0,-14057472,0,50692096,0,-120324096,0,190513152,0,-199229440,0,132120576,0,-50331648,0,8388608],
 [0,25,0,-2600,0,80080,0,-1144000,0,9152000,0,-45260800,0,146227200,0,-317521920,0,466944000,0,-458752000,0,288358400,0,-104857600,0,16777216]]
def tt(k:Nat):List Int:=Cq.getD k []
end Go.Proofs.YtafgmcimcbhhjaaGreat
/- Cmp, Nst -/
namespace Go.Proofs.YtafgmcimcbhhjaaGreat
open Go.RowKit Go.Front Go.Num
attribute [local go_sem] XW.cell XW.frozen
def lY(p q:List Rat):Nat→List Rat
 | 0=>[]
 | j+1=>bf (ar (lY p q j) q) [p.getD (p.length-1-j) 0]
theorem fU.can{w:World}{x:Nat×RH}{q:Rat}(h:fU w x q):aG w ⟨some ⟨x.1,0,none⟩,1,1⟩ [q] :=
 ⟨[x.2],RBk.rs (rs:=[x.2]) (re:=#[]) h.1 rfl (nXd _) (by decide),(fo.nil _ _).snoc h.2⟩
theorem SzL.one'{s:Nat}{q:Rat}(h:Sz s q):SzL s [q]:=by
 intro x hx;obtain rfl:x=q:=by simpa using hx
 exact h
end Go.Proofs.YtafgmcimcbhhjaaGreat
namespace Go.Proofs.YtafgmcimcbhhjaaGreat
open Go.RowKit Go.Front Go.Num
def Cr:List (List (List Int)):=[[[],[1]],
 [[],[1]],
 [[],[1]],
 [[],[1]],
 [[],[1]],
 [[],[1]],
 [[],[1],[1]],
 [[],[1],[0,1]],
 [[],[1],[-1,0,2]],
 [[],[1],[0,-3,0,4]],
 [[],[1],[1,0,-8,0,8]],
 [[],[1],[0,5,0,-20,0,16]],
 [[],[2],[2],[1]],
 [[],[2],[0,2],[-1,0,2]],
 [[],[2],[-2,0,4],[1,0,-8,0,8]],
 [[],[2],[0,-6,0,8],[-1,0,18,0,-48,0,32]],
 [[],[2],[2,0,-16,0,16],[1,0,-32,0,160,0,-256,0,128]],
 [[],[2],[0,10,0,-40,0,32],[-1,0,50,0,-400,0,1120,0,-1280,0,512]],
 [[],[4],[4],[1],[1]],
 [[],[4],[0,4],[-3,0,4],[0,-3,0,4]],
 [[],[4],[-4,0,8],[1,0,-16,0,16],[-1,0,18,0,-48,0,32]],
 [[],[4],[0,-12,0,16],[-3,0,36,0,-96,0,64],[0,9,0,-120,0,432,0,-576,0,256]],
 [[],[4],[4,0,-32,0,32],[1,0,-64,0,320,0,-512,0,256],[1,0,-72,0,840,0,-3584,0,6912,0,-6144,0,2048]],
 [[],[4],[0,20,0,-80,0,64],[-3,0,100,0,-800,0,2240,0,-2560,0,1024],[0,-15,0,560,0,-6048,0,28800,0,-70400,0,92160,0,-61440,0,16384]],
 [[],[8],[8],[],[],[1]],
 [[],[8],[0,8],[-8,0,8],[0,-8,0,8],[1,0,-8,0,8]],
 [[],[8],[-8,0,16],[0,0,-32,0,32],[0,0,32,0,-96,0,64],[1,0,-32,0,160,0,-256,0,128]],
 [[],[8],[0,-24,0,32],[-8,0,72,0,-192,0,128],[0,24,0,-248,0,864,0,-1152,0,512],[1,0,-72,0,840,0,-3584,0,6912,0,-6144,0,2048]],
 [[],[8],[8,0,-64,0,64],[0,0,-128,0,640,0,-1024,0,512],[0,0,-128,0,1664,0,-7168,0,13824,0,-12288,0,4096],[1,0,-128,0,2688,0,-21504,0,84480,0,-180224,0,212992,0,-131072,0,32768]],
 [[],[8],[0,40,0,-160,0,128],[-8,0,200,0,-1600,0,4480,0,-5120,0,2048],[0,-40,0,1160,0,-12128,0,57600,0,-140800,0,184320,0,-122880,0,32768],[1,0,-200,0,6600,0,-84480,0,549120,0,-2050048,0,4659200,0,-6553600,0,5570560,0,-2621440,0,524288]],
 [[],[16],[16],[-4],[-4],[1],[1]],
 [[],[16],[0,16],[-20,0,16],[0,-20,0,16],[5,0,-20,0,16],[0,5,0,-20,0,16]],
 [[],[16],[-16,0,32],[-4,0,-64,0,64],[4,0,56,0,-192,0,128],[1,0,-48,0,304,0,-512,0,256],[-1,0,50,0,-400,0,1120,0,-1280,0,512]],
 [[],[16],[0,-48,0,64],[-20,0,144,0,-384,0,256],[0,60,0,-512,0,1728,0,-2304,0,1024],[5,0,-180,0,1776,0,-7232,0,13824,0,-12288,0,4096],[0,-15,0,560,0,-6048,0,28800,0,-70400,0,92160,0,-61440,0,16384]],
 [[],[16],[16,0,-128,0,128],[-4,0,-256,0,1280,0,-2048,0,1024],[-4,0,-224,0,3296,0,-14336,0,27648,0,-24576,0,8192],[1,0,-192,0,5056,0,-42496,0,168704,0,-360448,0,425984,0,-262144,0,65536],[1,0,-200,0,6600,0,-84480,0,549120,0,-2050048,0,4659200,0,-6553600,0,5570560,0,-2621440,0,524288]],
 [[],[16],[0,80,0,-320,0,256],[-20,0,400,0,-3200,0,8960,0,-10240,0,4096],[0,-100,0,2400,0,-24320,0,115200,0,-281600,0,368640,0,-245760,0,65536],[5,0,-500,0,14000,0,-171200,0,1100800,0,-4101120,0,9318400,0,-13107200,0,11141120,0,-5242880,0,1048576],[0,25,0,-2600,0,80080,0,-1144000,0,9152000,0,-45260800,0,146227200,0,-317521920,0,466944000,0,-458752000,0,288358400,0,-104857600,0,16777216]]]
def hh(m n j:Nat):List Int:=(Cr.getD (m*6+n) []).getD j []
end Go.Proofs.YtafgmcimcbhhjaaGreat
/- Composition with a linear polynomial: package poly. -/
namespace Go.Proofs.YtafgmcimcbhhjaaGreat
open Go.RowKit Go.Front Go.Num Stab
attribute [local go_sem] XW.cell XW.frozen
theorem FrB.one1{S:Nat}{l:List Rat}(h:FrB S l)(i:Nat):FrB S [l.getD i 0]:=by
 obtain ⟨h0,D,h1,h2,h3⟩:=h;exact ⟨h0,D,h1,h2,fun x hx=>by rw [nXt.1 hx];exact h3.at i⟩
theorem iA{p q:List Rat}(hq:q.length≤2):∀ j,(lY p q j).length≤j+1:=by
 intro j;induction j with
 | zero=>exact Nat.zero_le _
 | succ j ih=>exact fg (nXe (aS ih hq) (by omega)) (by show 1≤_;omega)
theorem lX{S:Nat}{p q:List Rat}(hp:FrB S p)(hq:FrB S q)(hl:q.length≤2):∀ j,j≤1000→FrB (1+j*(2*S+2)) (lY p q j):=by
 intro j;induction j with
 | zero=>intro _;rw [Nat.zero_mul];exact FrB.nil
 | succ j ih =>
  intro hj;have h:=((ih (by omega)).mul hq (by have:=iA (p:=p) hl j;omega)).add (hp.one1 (p.length-1-j));exact h.mono (by rw [show (j+1)*(2*S+2)=j*(2*S+2)+(2*S+2) from nXx _ _];omega)
theorem mK(s t:SH)(p q:List Rat)(D S:Nat)(w:World)(h:aG w s p)(k:aG w t q)(hp:p.length=D+1)(tp:tz p=p)(hq:q.length=2)(tq:tz q=q)(hD:1≤D)(hD2:D≤8)(fp:FrB S p)(fq:FrB S q)(hS:S≤1000) :
  aq 198 [s.v,t.v] w RF (fun x w'=>x.2=0∧aG w' x.1 (lY p q (D+1))):=by
 obtain ⟨pa,pn,pc⟩:=s;obtain ⟨qa,qn,qc⟩:=t;have L1:=Hi h;have L2:=Hi k;have HX:=Hi (Ext.refl w);have hpn:=h.len;have hqn:=k.len;simp only at hpn hqn;rw [hp] at hpn;rw [hq] at hqn;subst hpn hqn;have hp1:=h.le;have hp2:=h.max;simp only at hp1 hp2;have FP:=Hi fp;have FQ:=Hi fq;have HP:=Hi hp;have HQ:=Hi hq;have HDp:Hid (((tz p).length:Int)-1=D):=Hi (by rw [tp,hp];omega);have HDq:Hid (((tz q).length:Int)-1=1):=Hi (by rw [tq,hq];rfl);have hd0:(0:Int)<D:=by omega
 have hd1:¬ (192:Int)<D:=by omega
 clear h k hp hq tp tq fp fq;unfold aq;simp only [SH.v];go_enter Tryz.func198,Tryz.ntmps198
 go_wp2_with fail
 refine cM (cO pa (D+1) pc p _ (L1.out.raw FP.out.sz (by omega))) fun x2 w2 hE _=>?_
 refine mV3 hE ?_ L1 L2 HX;clear L1 L2 HX;intro L1 L2 HX;have hs_w2:=hE.size;clear hE;rw [HDp.out]
 go_wp2_with fail
 refine cM (cO qa 2 qc q _ (L2.out.raw FQ.out.sz (by omega))) fun x3 w3 hE _=>?_
 refine mV3 hE ?_ L1 L2 HX;clear L1 L2 HX;intro L1 L2 HX;have hs_w3:=hE.size;clear hE;rw [HDq.out];clear HDp HDq;go_wp2
 go_loopg [8,36] (D+1) (fun g r i wr=>∃ (j:Nat) (s:SH),j+g=D+1∧r=s.v∧i=.int .i64 (j:Nat)∧Ext w wr∧aG wr ⟨pa,D+1,pc⟩ p∧aG wr ⟨qa,2,qc⟩ q∧aG wr s (lY p q j))
 case atStart=>exact ⟨0,⟨none,0,0⟩,by omega,rfl,rfl,HX.out,L1.out,L2.out,(bR.nil 0 _).can⟩
 case round =>
  obtain ⟨j,⟨sa,sn,sc⟩,hj,rfl,rfl,g1,g2,g3,g4⟩:=hrel;clear HX L1 L2;have HX:=Hi g1;have L1:=Hi g2;have L2:=Hi g3;have LO:=Hi g4;have hsn:=g4.len;have hsl:=iA (p:=p) (nle HQ.out) j;simp only at hsn;have hsn2:sn≤11:=by omega
  clear g1 g2 g3 g4 hsn hsl;simp only [SH.v];by_cases h0:gk=0
  case pos =>
   subst h0;obtain rfl:j=D+1:=by omega
   have hjd:¬ (((D+1:Nat):Int)<D+1):=by omega
   go_wp2;exact bodyPost_ret (v:=RF (⟨sa,sn,sc⟩,0)) (by simp [results,Tryz.results198,go_sem,RF]) rfl ⟨(⟨sa,sn,sc⟩,0),rfl,HX.out,rfl,LO.out⟩
  obtain ⟨i,hi⟩:∃ i,i+j=D:=⟨D-j,by omega⟩;have hii:(D:Int)-j=i:=by omega
  have hjd:(j:Int)<D+1:=by omega
  have hiD:i<D+1:=by omega
  have FH:Hid (FrB 60000 (lY p q j)):=Hi ((lX FP.out FQ.out (nle HQ.out) j (by omega)).mono (by have:=nXw (show j≤8 by omega) (show 2*S+2≤2002 by omega);omega));have Z3:Hid (SzL 62000 (ar (lY p q j) q)):=Hi ((FH.out.mul FQ.out (by have:=iA (p:=p) (nle HQ.out) j;omega)).mono (by omega)).sz;have Z4:Hid ((ar (lY p q j) q).length≤1000):=Hi (nXe (aS (iA (p:=p) (nle HQ.out) j) (nle HQ.out)) (by omega));have Hh:Hid (lY p q (j+1)=bf (ar (lY p q j) q) [p.getD i 0]):=Hi (by show bf _ [p.getD (p.length-1-j) 0]=_;rw [HP.out,show D+1-1-j=i by omega]);have ZP:Hid (Sz S (p.getD i 0)):=Hi (FP.out.sz.getD FP.out.1 i);obtain ⟨b,off,r,hao,hat,hP⟩:=L1.out.at (k:=i) (by omega);have hbl:=RAt.lt hat;obtain ⟨hc1,hc2,hc3⟩:=hat;obtain ⟨rneg,ra,rn,rc,rb,rm,rd⟩:=r;simp only at hc1 hc2 hc3 hao;subst hao;have RP:=Hi hP;clear hP h0 hi
  go_upto_region 8 with fail
  refine wpG 11 (fun opIx=>match opIx with
   | 2=>.spec (SH) (default) (SH.v) (fun s w'=>aG w' s (ar (lY p q j) q))
   | 9=>.spec (Nat×RH) ((0,default)) (fun p=>.slice (some ⟨p.1,0,none⟩) 1 1) (fun p' w'=>fU w' p' (p.getD i 0))
   | 10=>.spec (SH) (default) (SH.v) (fun s w'=>aG w' s (lY p q (j+1)))
   | _=>.quiet) (fun|10=>[2,9]|_=>[]) fun w0 he0 hz0 hc0 hf0=>?_
  refine wps he0.out rfl rfl (fun w1 hW hG=>?_) fun x2=>?_
  ·exact spc [.slice sa sn sc,.slice qa 2 qc] Tryz.func100 ((d9 sa qa sn sc 2 qc _ _ 60000 S _ ((LO.out.ext hW).raw FH.out.sz (by decide)) ((L2.out.ext hW).raw FQ.out.sz (by omega)) (by omega) (by decide) FH.out FQ.out (by omega)).weak (fun x w' _ h=>h.can))
  refine qZ ?_;refine wps he0.out rfl rfl (fun w1 hW hG=>?_) fun x9=>?_
  ·exact kC ⟨rneg,ra,rn,rc,rb,rm,rd⟩ _ (RP.out.ext hW) rfl (by simp [execOp,go_sem])
  refine qZ ?_;refine wps he0.out rfl rfl (fun w1 hW hG=>?_) fun x10=>?_
  ·have g2:=(hG 2 (by decide):aw _ _).get fun _ e g=>g.ext e
   have g9:=(hG 9 (by decide):aw _ _).get fun _ e g=>g.ext e
   exact spc [x2.v,.slice (some ⟨x9.1,0,none⟩) 1 1] Tryz.func119 ((dP x2.a (some ⟨x9.1,0,none⟩) x2.n x2.c 1 1 _ _ _ (g2.raw Z3.out (by decide)) (g9.can.raw (SzL.one' ZP.out) (by omega)) (by have h1:=g2.len;have h2:=Z4.out;rw [h1] at h2;omega) (by decide) (Z3.out.mono (by decide)) ((SzL.one' ZP.out).mono (by omega))).weak (fun x w' _ h=>by rw [Hh.out];exact h.can))
  refine qZ ?_;refine aj ?_;intro w8 hI;have hE:=he0.out.trans hI.ext;have G2:=gT (hI.facts 2);have G9:=gT (hI.facts 9);have G10:=gT (hI.facts 10);clear hI he0 hz0 hc0 hf0;refine mV4 hE ?_ HX L1 LO L2;clear HX L1 LO L2;intro HX L1 LO L2;have hs_w8:=hE.size;clear hE;simp only [pD];obtain ⟨xa,xn,xc⟩:=x10;have GN:=Hi G10.out;clear G2 G9 G10;simp only [SH.v];go_wp2
  go_roundg (gk-1)
  case measure=>omega
  case rel=>exact ⟨j+1,⟨xa,xn,xc⟩,by omega,rfl,by go_num,HX.out,L1.out,L2.out,GN.out⟩
end Go.Proofs.YtafgmcimcbhhjaaGreat
