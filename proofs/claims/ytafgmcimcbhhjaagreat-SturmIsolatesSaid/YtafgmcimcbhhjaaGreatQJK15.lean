import Derived.Test.YtafgmcimcbhhjaaGreatQJK14
set_option linter.unusedVariables false
set_option maxHeartbeats 8000000
set_option maxRecDepth 8000
namespace Go.Proofs.YtafgmcimcbhhjaaGreat
open Go.RowKit Go.Front Go.Num Stab Sg
attribute [local go_sem] XW.cell XW.frozen
structure Mz (ms:List (List Rat)) (x:Rat):Prop where
 ln:ms.length≤1000
 mm:∀ k,k<ms.length→(ms.getD k []).length≤100∧SzL 40000000 (ms.getD k [])∧∀ j,j≤(ms.getD k []).length→Sz 40000000 (evV ((ms.getD k []).drop j) x)
theorem ChR.at{w:World}{va:Option Addr}{vn vc k:Nat}{ms:List (List Rat)}(h:ChR w ⟨va,vn,vc⟩ ms)(hk:k<ms.length):∃ L a n c,va=some ⟨L,0,none⟩∧L<w.heap.size∧w.cell? ⟨L,k,none⟩=some (.slice a n c)∧bw w ⟨a,n,c⟩ (ms.getD k []):=h.2 k hk
theorem pU(v:SH)(ms:List (List Rat))(t:RH)(x:Rat)(w:World)(hc:ChR w v ms)(hz:Mz ms x)(ht:aB w t x)(hx:Sz 10000000 x) :
  au 137 [v.v,t.v] w (fun _:Unit=>.int .i64 (cw ms x)) (fun _ _=>True):=by
 obtain ⟨va,vn,vc⟩:=v;obtain ⟨tn,ta,tl,tc,tb,tm,td⟩:=t;have HX:=Hi (Ext.refl w);have HC:=Hi hc;have HT:=Hi ht;have ZX:=Hi hx;have HM:=Hi hz;obtain rfl:vn=ms.length:=hc.1;have hl:=hz.ln;clear hc ht hx hz;unfold au;go_enter Tryz.func137,Tryz.ntmps137;simp only [SH.v]
 go_upto_region 1 with fail
 refine nmA ?_;intro w1 hE B3 hz_w1 hr_w1;refine mV3 hE ?_ HX HC HT;clear HX HC HT;intro HX HC HT;have hs_w1:=hE.size;obtain ⟨c_B3,f_B3,l_B3⟩:=bX3 B3;obtain ⟨b3,hb3⟩:∃ b3,b3=w.heap.size:=⟨_,rfl⟩;have hb3w:b3<w1.heap.size:=zo;rw [←hb3] at B3 ⊢;clear c_B3 f_B3 l_B3;have c_B3:=ae B3.out;have f_B3:=af B3.out;clear hb3;go_wp2
 go_loopg [5,6,12] ms.length (fun g cv lv iv wr=>∃ (k cnt:Nat) (la:Int),k+g=ms.length∧iv=.int .i64 (k:Nat)∧cv=.int .i64 (cnt:Nat)∧lv=.int .i64 la∧Ext w wr∧Ext w1 wr∧cnt+vr la ((ms.drop k).map fun m=>Sg.sg (evV m x))=cw ms x∧cnt≤k∧IsS la)
 case atStart=>exact ⟨0,0,0,zo,rfl,rfl,rfl,HX.out,Ext.refl _,by rw [Nat.zero_add];rfl,nXe _,Or.inr (Or.inl rfl)⟩
 case round =>
  obtain ⟨k,cnt,la,hk,rfl,rfl,rfl,g1,g2,g3,g4,g5⟩:=hrel;clear HX;have HX:=Hi g1;have HX7:=Hi g2;have HC2:=Hi (HC.out.ext g2);have HT2:=Hi (HT.out.ext g2);have B32:=Hi (g2.block B3.out);have HV:=Hi g3;have HLA:=Hi g5;have hb3r:=g2.size;clear g1 g2 g3 g5 c_B3 f_B3;replace b_B32:=bX3 B32;by_cases h0:gk=0
  case pos =>
   subst h0;obtain rfl:k=ms.length:=by omega
   have HE:Hid (cnt=cw ms x):=Hi (by have:=HV.out;rw [List.drop_length,List.map_nil] at this;exact this);have hin:¬ ((ms.length:Nat):Int)<(ms.length:Nat):=zo;go_wp2
   go_ret
   exact ⟨(),by rw [HE.out];rfl,HX.out,trivial⟩
  have hin:(k:Int)<(ms.length:Nat):=zo;have hkn:k<ms.length:=zo;obtain ⟨L,a,n,c,hva,hLl,hcell,hcan⟩:=HC2.out.at (k:=k) hkn;subst hva;have HL:=Hi hcan;have HMk:=Hi (HM.out.mm k hkn);have hn:n≤100:=by have h1:=hcan.len;have h2:=HMk.out.1;simp only at h1;omega
  have HD:=Hi (qW (fun m=>Sg.sg (evV m x)) ms [] hkn);have HZ0:Hid (Sz 40000000 (evV (ms.getD k []) x)):=Hi (HMk.out.2.2 0 (Nat.zero_le _));clear hcan
  go_wp2_with fail
  refine cM (ox a n c (ms.getD k []) ⟨tn,ta,tl,tc,tb,tm,td⟩ x _ HL.out HT2.out hn HMk.out.2.1 ZX.out HMk.out.2.2) fun x18 w18 hE G18=>?_
  refine mV6 hE ?_ HX HX7 HC2 HT2 B32 HL;clear HX HX7 HC2 HT2 B32 HL;intro HX HX7 HC2 HT2 B32 HL;have hs_w18:=hE.size;replace b_B32:=bX3 B32
  go_wp2_with fail
  refine cM (jy x18 (evV (ms.getD k []) x) _ (G18.out.raw HZ0.out dZ)) fun x19 w19 hE _=>?_
  refine mV7 hE ?_ G18 HX HX7 HC2 HT2 B32 HL;clear G18 HX HX7 HC2 HT2 B32 HL;intro G18 HX HX7 HC2 HT2 B32 HL;have hs_w19:=hE.size;replace b_B32:=bX3 B32;rw [vj];rw [HD.out] at HV;have hs:=nH (evV (ms.getD k []) x);obtain ⟨s,es⟩:∃ s,s=Sg.sg (evV (ms.getD k []) x):=⟨_,rfl⟩;rw [←es] at HV hs ⊢;have HS:=Hi hs;clear es HD hcell HZ0 HMk;clear HL;clear G18;obtain ⟨rl,hrl⟩:∃ rl,rl=(ms.drop (k+1)).map fun m=>Sg.sg (evV m x):=⟨_,rfl⟩
  rw [←hrl] at HV;have HRL:=Hi hrl;have hla:=HLA.out;clear hrl;have fin:∀ (cnt2:Nat) (s2:Int),cnt2+vr s2 rl=cw ms x→cnt2+vr s2 ((ms.drop (k+1)).map fun m=>Sg.sg (evV m x))=cw ms x:=fun cnt2 s2 h=>by rw [←HRL.out];exact h
  have FIN:=Hi fin;clear fin;rcases hs with rfl|rfl|rfl
  ·rcases hla with rfl|rfl|rfl
   ·have HV2:Hid (cnt+vr (-1) rl=cw ms x):=Hi (by have:=HV.out;simpa [vr] using this);clear HV;go_wp2
    go_roundg (gk-1)
    case measure=>omega
    case rel=>exact ⟨k+1,cnt,-1,zo,by go_num,rfl,rfl,HX.out,HX7.out,FIN.out _ _ HV2.out,zo,HS.out⟩
   ·have HV2:Hid (cnt+vr (-1) rl=cw ms x):=Hi (by have:=HV.out;simpa [vr] using this);clear HV;go_wp2
    go_roundg (gk-1)
    case measure=>omega
    case rel=>exact ⟨k+1,cnt,-1,zo,by go_num,rfl,rfl,HX.out,HX7.out,FIN.out _ _ HV2.out,zo,HS.out⟩
   ·have HV2:Hid ((cnt+1)+vr (-1) rl=cw ms x):=Hi (by have:=HV.out;simp [vr] at this;omega);clear HV;go_wp2
    go_roundg (gk-1)
    case measure=>omega
    case rel=>exact ⟨k+1,cnt+1,-1,zo,by go_num,by go_num,rfl,HX.out,HX7.out,FIN.out _ _ HV2.out,zo,HS.out⟩
  ·have HV2:Hid (cnt+vr la rl=cw ms x):=Hi (by have:=HV.out;rw [show vr la (0 :: rl)=vr la rl by simp [vr]] at this;exact this);clear HV;go_wp2
   go_roundg (gk-1)
   case measure=>omega
   case rel=>exact ⟨k+1,cnt,la,zo,by go_num,rfl,rfl,HX.out,HX7.out,FIN.out _ _ HV2.out,zo,HLA.out⟩
  ·rcases hla with rfl|rfl|rfl
   ·have HV2:Hid ((cnt+1)+vr 1 rl=cw ms x):=Hi (by have:=HV.out;simp [vr] at this;omega);clear HV;go_wp2
    go_roundg (gk-1)
    case measure=>omega
    case rel=>exact ⟨k+1,cnt+1,1,zo,by go_num,by go_num,rfl,HX.out,HX7.out,FIN.out _ _ HV2.out,zo,HS.out⟩
   ·have HV2:Hid (cnt+vr 1 rl=cw ms x):=Hi (by have:=HV.out;simpa [vr] using this);clear HV;go_wp2
    go_roundg (gk-1)
    case measure=>omega
    case rel=>exact ⟨k+1,cnt,1,zo,by go_num,rfl,rfl,HX.out,HX7.out,FIN.out _ _ HV2.out,zo,HS.out⟩
   ·have HV2:Hid (cnt+vr 1 rl=cw ms x):=Hi (by have:=HV.out;simpa [vr] using this);clear HV;go_wp2
    go_roundg (gk-1)
    case measure=>omega
    case rel=>exact ⟨k+1,cnt,1,zo,by go_num,rfl,rfl,HX.out,HX7.out,FIN.out _ _ HV2.out,zo,HS.out⟩
end Go.Proofs.YtafgmcimcbhhjaaGreat
/- Eval of the reference's polynomials, of any form. -/
namespace Go.Proofs.YtafgmcimcbhhjaaGreat
open Go.RowKit Go.Front Go.Num Stab
attribute [local go_sem] XW.cell XW.frozen
theorem BU(a b:Rat):(if a<b then b else a)=hiV a b:=by
 unfold hiV;by_cases h:a<b
 ·rw [if_pos h,if_neg (by grind)]
 ·rw [if_neg h];by_cases h2:b<a
  ·rw [if_pos h2]
  ·rw [if_neg h2];grind
theorem tu(s t:RH)(a b:Rat)(w:World)(hs:aS w s a)(ht:aS w t b):au 95 [s.v,t.v] w RH.v (fun x w'=>aB w' x (loV a b)):=by
 have HX:=Hi (Ext.refl w);have HS:=Hi hs;have HT:=Hi ht;clear hs ht;unfold au;go_enter Tryz.func95,Tryz.ntmps95;obtain ⟨sn,sa,sl,sc,sb,sm,sd⟩:=s;obtain ⟨tn,ta,tl,tc,tb,tm,td⟩:=t
 go_upto_region 1 with fail
 refine rX ?_;intro w1 hE B2 B3 B4 hz_w1 hr_w1;refine mV3 hE ?_ HX HS HT;clear HX HS HT;intro HX HS HT;have hs_w1:=hE.size;replace b_B2:=bX3 B2;replace b_B3:=bX3 B3;replace b_B4:=bX3 B4
 go_wp2_with fail
 refine cM (de ⟨tn,ta,tl,tc,tb,tm,td⟩ ⟨sn,sa,sl,sc,sb,sm,sd⟩ b a _ HT.out HS.out) fun x7 w7 hE _=>?_
 refine mV6 hE ?_ B2 B3 B4 HX HS HT;clear B2 B3 B4 HX HS HT;intro B2 B3 B4 HX HS HT;have hs_w7:=hE.size;replace b_B2:=bX3 B2;replace b_B3:=bX3 B3;replace b_B4:=bX3 B4;by_cases h:b<a
 case pos =>
  have HV:Hid (loV a b=b):=Hi (if_pos h);rw [decide_eq_true h];clear h
  go_wp2_with fail
  refine cM (cN ⟨tn,ta,tl,tc,tb,tm,td⟩ b _ HT.out) fun x9 w9 hE G9=>?_
  refine mV6 hE ?_ B2 B3 B4 HX HS HT;clear B2 B3 B4 HX HS HT;intro B2 B3 B4 HX HS HT;have hs_w9:=hE.size;replace b_B2:=bX3 B2;replace b_B3:=bX3 B3;replace b_B4:=bX3 B4;go_wp2;refine bi (F:=fun W=>bodyPost _ _ _ _ _ W) B4.out rfl ?_;intro w10 T;replace HX:=Hi (T.ext HX.out zo);replace HS:=Hi (HS.out.keep T.keep);replace HT:=Hi (HT.out.keep T.keep);replace B2:=Hi (T.rest _ _ zo B2.out);replace B3:=Hi (T.rest _ _ zo B3.out);replace B4:=Hi (T.bx);replace G9:=Hi (G9.out.keep T.keep);have hs_w10:=nle T.size;have hr_w10:=nle T.size.symm;clear T;replace b_B2:=bX3 B2;replace b_B3:=bX3 B3;replace b_B4:=bX3 B4;exact nXa (v:=RH.v x9) (by simp [results,Tryz.results95,go_sem,b_B4.1]) rfl ⟨x9,rfl,HX.out,by rw [HV.out];exact G9.out⟩
 have HV:Hid (loV a b=a):=Hi (if_neg h);rw [decide_eq_false h];clear h
 go_wp2_with fail
 refine cM (cN ⟨sn,sa,sl,sc,sb,sm,sd⟩ a _ HS.out) fun x11 w11 hE G11=>?_
 refine mV6 hE ?_ HX HS HT B2 B3 B4;clear HX HS HT B2 B3 B4;intro HX HS HT B2 B3 B4;have hs_w11:=hE.size;replace b_B2:=bX3 B2;replace b_B3:=bX3 B3;replace b_B4:=bX3 B4;go_wp2;refine bi (F:=fun W=>bodyPost _ _ _ _ _ W) B4.out rfl ?_;intro w12 T;replace HX:=Hi (T.ext HX.out zo);replace HS:=Hi (HS.out.keep T.keep);replace HT:=Hi (HT.out.keep T.keep);replace B2:=Hi (T.rest _ _ zo B2.out);replace B3:=Hi (T.rest _ _ zo B3.out);replace B4:=Hi (T.bx);replace G11:=Hi (G11.out.keep T.keep);have hs_w12:=nle T.size;have hr_w12:=nle T.size.symm;clear T;replace b_B2:=bX3 B2;replace b_B3:=bX3 B3;replace b_B4:=bX3 B4;exact nXa (v:=RH.v x11) (by simp [results,Tryz.results95,go_sem,b_B4.1]) rfl ⟨x11,rfl,HX.out,by rw [HV.out];exact G11.out⟩
theorem tv(s t:RH)(a b:Rat)(w:World)(hs:aS w s a)(ht:aS w t b):au 96 [s.v,t.v] w RH.v (fun x w'=>aB w' x (hiV a b)):=by
 have HX:=Hi (Ext.refl w);have HS:=Hi hs;have HT:=Hi ht;clear hs ht;unfold au;go_enter Tryz.func96,Tryz.ntmps96;obtain ⟨sn,sa,sl,sc,sb,sm,sd⟩:=s;obtain ⟨tn,ta,tl,tc,tb,tm,td⟩:=t
 go_upto_region 1 with fail
 refine rX ?_;intro w1 hE B2 B3 B4 hz_w1 hr_w1;refine mV3 hE ?_ HX HS HT;clear HX HS HT;intro HX HS HT;have hs_w1:=hE.size;replace b_B2:=bX3 B2;replace b_B3:=bX3 B3;replace b_B4:=bX3 B4
 go_wp2_with fail
 refine cM (de ⟨sn,sa,sl,sc,sb,sm,sd⟩ ⟨tn,ta,tl,tc,tb,tm,td⟩ a b _ HS.out HT.out) fun x7 w7 hE _=>?_
 refine mV6 hE ?_ B2 B3 B4 HX HS HT;clear B2 B3 B4 HX HS HT;intro B2 B3 B4 HX HS HT;have hs_w7:=hE.size;replace b_B2:=bX3 B2;replace b_B3:=bX3 B3;replace b_B4:=bX3 B4;by_cases h:a<b
 case pos =>
  have HV:Hid (hiV a b=b):=Hi (by rw [←BU,if_pos h]);rw [decide_eq_true h];clear h
  go_wp2_with fail
  refine cM (cN ⟨tn,ta,tl,tc,tb,tm,td⟩ b _ HT.out) fun x9 w9 hE G9=>?_
  refine mV6 hE ?_ B2 B3 B4 HX HS HT;clear B2 B3 B4 HX HS HT;intro B2 B3 B4 HX HS HT;have hs_w9:=hE.size;replace b_B2:=bX3 B2;replace b_B3:=bX3 B3;replace b_B4:=bX3 B4;go_wp2;refine bi (F:=fun W=>bodyPost _ _ _ _ _ W) B4.out rfl ?_;intro w10 T;replace HX:=Hi (T.ext HX.out zo);replace HS:=Hi (HS.out.keep T.keep);replace HT:=Hi (HT.out.keep T.keep);replace B2:=Hi (T.rest _ _ zo B2.out);replace B3:=Hi (T.rest _ _ zo B3.out);replace B4:=Hi (T.bx);replace G9:=Hi (G9.out.keep T.keep);have hs_w10:=nle T.size;have hr_w10:=nle T.size.symm;clear T;replace b_B2:=bX3 B2;replace b_B3:=bX3 B3;replace b_B4:=bX3 B4;exact nXa (v:=RH.v x9) (by simp [results,Tryz.results96,go_sem,b_B4.1]) rfl ⟨x9,rfl,HX.out,by rw [HV.out];exact G9.out⟩
 have HV:Hid (hiV a b=a):=Hi (by rw [←BU,if_neg h]);rw [decide_eq_false h];clear h
 go_wp2_with fail
 refine cM (cN ⟨sn,sa,sl,sc,sb,sm,sd⟩ a _ HS.out) fun x11 w11 hE G11=>?_
 refine mV6 hE ?_ HX HS HT B2 B3 B4;clear HX HS HT B2 B3 B4;intro HX HS HT B2 B3 B4;have hs_w11:=hE.size;replace b_B2:=bX3 B2;replace b_B3:=bX3 B3;replace b_B4:=bX3 B4;go_wp2;refine bi (F:=fun W=>bodyPost _ _ _ _ _ W) B4.out rfl ?_;intro w12 T;replace HX:=Hi (T.ext HX.out zo);replace HS:=Hi (HS.out.keep T.keep);replace HT:=Hi (HT.out.keep T.keep);replace B2:=Hi (T.rest _ _ zo B2.out);replace B3:=Hi (T.rest _ _ zo B3.out);replace B4:=Hi (T.bx);replace G11:=Hi (G11.out.keep T.keep);have hs_w12:=nle T.size;have hr_w12:=nle T.size.symm;clear T;replace b_B2:=bX3 B2;replace b_B3:=bX3 B3;replace b_B4:=bX3 B4;exact nXa (v:=RH.v x11) (by simp [results,Tryz.results96,go_sem,b_B4.1]) rfl ⟨x11,rfl,HX.out,by rw [HV.out];exact G11.out⟩
theorem dq(s t:RH)(a b:Rat)(w:World)(hs:aS w s a)(ht:aS w t b):au 39 [IvV (s,t)] w IvV (fun x w'=>aB w' x.1 (loV a b)∧aB w' x.2 (hiV a b)):=by
 have HX:=Hi (Ext.refl w);have HS:=Hi hs;have HT:=Hi ht;clear hs ht;unfold au;go_enter Tryz.func39,Tryz.ntmps39;obtain ⟨sn,sa,sl,sc,sb,sm,sd⟩:=s;obtain ⟨tn,ta,tl,tc,tb,tm,td⟩:=t
 go_upto_region 1 with fail
 refine hZ ?_;intro w1 hE B1 B2 hz_w1 hr_w1;refine mV3 hE ?_ HX HS HT;clear HX HS HT;intro HX HS HT;have hs_w1:=hE.size;replace b_B1:=bX3 B1;replace b_B2:=bX3 B2;refine wpG 11 (fun opIx=>match opIx with
  | 4=>sR (loV a b)
  | 9=>sR (hiV a b)
  | _=>.quiet) (fun _=>[]) fun w0 he0 hz0 hc0 hf0=>?_
 refine wps he0 (fun w1 hW hG=>?_) fun x20=>?_
 ·exact spc [RH.v ⟨sn,sa,sl,sc,sb,sm,sd⟩,RH.v ⟨tn,ta,tl,tc,tb,tm,td⟩] Tryz.func95 (tu _ _ _ _ _ (HS.out.ext hW) (HT.out.ext hW))
 refine qZ ?_;refine wps he0 (fun w1 hW hG=>?_) fun x21=>?_
 ·exact spc [RH.v ⟨sn,sa,sl,sc,sb,sm,sd⟩,RH.v ⟨tn,ta,tl,tc,tb,tm,td⟩] Tryz.func96 (tv _ _ _ _ _ (HS.out.ext hW) (HT.out.ext hW))
 refine qZ ?_;refine aq ?_;intro w2 hI;have hE:=he0.out.trans hI.ext;have G20:=gT (hI.facts 4);have G21:=gT (hI.facts 9);clear hI he0 hz0 hc0 hf0;refine mV5 hE ?_ B1 B2 HX HS HT;clear B1 B2 HX HS HT;intro B1 B2 HX HS HT;have hs_w2:=hE.size;replace b_B1:=bX3 B1;replace b_B2:=bX3 B2;simp only [pD];go_wp2;refine df (F:=fun W=>bodyPost _ _ _ _ _ W) B2.out rfl ?_;intro w10 T;replace HX:=Hi (T.ext HX.out zo);replace HS:=Hi (HS.out.keep T.keep);replace HT:=Hi (HT.out.keep T.keep);replace B1:=Hi (T.rest _ _ zo B1.out);replace B2:=Hi (T.bx);replace G20:=Hi (G20.out.keep T.keep);replace G21:=Hi (G21.out.keep T.keep);have hs_w10:=nle T.size;have hr_w10:=nle T.size.symm;clear T;replace b_B1:=bX3 B1;replace b_B2:=bX3 B2;exact nXa (v:=IvV (x20,x21)) (by simp [results,Tryz.results39,go_sem,b_B2.1]) rfl ⟨(x20,x21),rfl,HX.out,G20.out,G21.out⟩
theorem fp(s t:RH)(a b:Rat)(w:World)(hs:aS w s a)(ht:aS w t b):au 52 [s.v,t.v] w IvV (fun x w'=>aB w' x.1 (loV a b)∧aB w' x.2 (hiV a b)):=by
 have HX:=Hi (Ext.refl w);have HS:=Hi hs;have HT:=Hi ht;clear hs ht;unfold au;go_enter Tryz.func52,Tryz.ntmps52;obtain ⟨sn,sa,sl,sc,sb,sm,sd⟩:=s;obtain ⟨tn,ta,tl,tc,tb,tm,td⟩:=t
 go_upto_region 1 with fail
 refine rX ?_;intro w1 hE B2 B3 B4 hz_w1 hr_w1;refine mV3 hE ?_ HX HS HT;clear HX HS HT;intro HX HS HT;have hs_w1:=hE.size;replace b_B2:=bX3 B2;replace b_B3:=bX3 B3;replace b_B4:=bX3 B4
 go_wp2_with fail
 refine cM (dq ⟨sn,sa,sl,sc,sb,sm,sd⟩ ⟨tn,ta,tl,tc,tb,tm,td⟩ a b _ HS.out HT.out) fun x8 w8 hE G8=>?_
 refine mV6 hE ?_ B2 B3 B4 HX HS HT;clear B2 B3 B4 HX HS HT;intro B2 B3 B4 HX HS HT;have hs_w8:=hE.size;replace b_B2:=bX3 B2;replace b_B3:=bX3 B3;replace b_B4:=bX3 B4;have HL:=Hi G8.out.1;have HH:=Hi G8.out.2;clear G8;go_wp2;refine df (F:=fun W=>bodyPost _ _ _ _ _ W) B4.out rfl ?_;intro w10 T;replace HX:=Hi (T.ext HX.out zo);replace HS:=Hi (HS.out.keep T.keep);replace HT:=Hi (HT.out.keep T.keep);replace B2:=Hi (T.rest _ _ zo B2.out);replace B3:=Hi (T.rest _ _ zo B3.out);replace B4:=Hi (T.bx);replace HL:=Hi (HL.out.keep T.keep);replace HH:=Hi (HH.out.keep T.keep);have hs_w10:=nle T.size;have hr_w10:=nle T.size.symm;clear T;replace b_B2:=bX3 B2;replace b_B3:=bX3 B3;replace b_B4:=bX3 B4;exact nXa (v:=IvV x8) (by simp [results,Tryz.results52,go_sem,b_B4.1]) rfl ⟨x8,rfl,HX.out,HL.out,HH.out⟩
theorem me(s t u:RH)(a b x:Rat)(T:Nat)(w:World)(hs:aS w s a)(ht:aS w t b)(hu:aS w u x)(za:Sz T a)(zb:Sz T b)(hT:T≤1000):au 90 [IvV (s,t),u.v] w (fun _:Unit=>.bool (decide (loV a b≤x∧x≤hiV a b))) (fun _ _=>True):=by
 have HX:=Hi (Ext.refl w);have HS:=Hi hs;have HT:=Hi ht;have HU:=Hi hu;have ZA:Hid (Sz T (loV a b)):=Hi (by rcases n4 a b with e|e <;> rw [e] <;> assumption);have ZB:Hid (Sz T (hiV a b)):=Hi (by rcases oh a b with e|e <;> rw [e] <;> assumption);clear hs ht hu za zb;unfold au;go_enter Tryz.func90,Tryz.ntmps90;obtain ⟨sn,sa,sl,sc,sb,sm,sd⟩:=s;obtain ⟨tn,ta,tl,tc,tb,tm,td⟩:=t;obtain ⟨un,ua,ul,uc,ub,um,ud⟩:=u
 go_upto_region 1 with fail
 refine hZ ?_;intro w1 hE B2 B3 hz_w1 hr_w1;refine mV4 hE ?_ HX HS HT HU;clear HX HS HT HU;intro HX HS HT HU;have hs_w1:=hE.size;replace b_B2:=bX3 B2;replace b_B3:=bX3 B3
 go_wp2_with fail
 refine cM (dq ⟨sn,sa,sl,sc,sb,sm,sd⟩ ⟨tn,ta,tl,tc,tb,tm,td⟩ a b _ HS.out HT.out) fun x6 w6 hE G6=>?_
 refine mV6 hE ?_ B2 B3 HX HS HT HU;clear B2 B3 HX HS HT HU;intro B2 B3 HX HS HT HU;have hs_w6:=hE.size;replace b_B2:=bX3 B2;replace b_B3:=bX3 B3;obtain ⟨⟨ln,la,ll,lc,lb,lm,ld⟩,⟨hn,ha,hl,hc,hb,hm,hd⟩⟩:=x6;have HL:=Hi G6.out.1;have HH:=Hi G6.out.2;clear G6
 go_upto_region 2 with fail
 refine df B2.out rfl ?_;intro w7 T;replace HX:=Hi (T.ext HX.out zo);replace HS:=Hi (HS.out.keep T.keep);replace HT:=Hi (HT.out.keep T.keep);replace HU:=Hi (HU.out.keep T.keep);replace B2:=Hi (T.bx);replace B3:=Hi (T.rest _ _ zo B3.out);replace HL:=Hi (HL.out.keep T.keep);replace HH:=Hi (HH.out.keep T.keep);have hs_w7:=nle T.size;have hr_w7:=nle T.size.symm;clear T;replace b_B2:=bX3 B2;replace b_B3:=bX3 B3
 go_wp2_with fail
 refine cM (de ⟨un,ua,ul,uc,ub,um,ud⟩ ⟨ln,la,ll,lc,lb,lm,ld⟩ x (loV a b) _ HU.out (HL.out.raw ZA.out zo)) fun x10 w10 hE _=>?_
 refine mV8 hE ?_ HX HS HT HU B2 B3 HL HH;clear HX HS HT HU B2 B3 HL HH;intro HX HS HT HU B2 B3 HL HH;have hs_w10:=hE.size;replace b_B2:=bX3 B2;replace b_B3:=bX3 B3;by_cases h:x<loV a b
 case pos =>
  have HV:Hid (decide (loV a b≤x∧x≤hiV a b)=false):=Hi (decide_eq_false (fun k=>by have:=k.1;grind));rw [decide_eq_true h];clear h;go_wp2
  go_ret
  exact ⟨(),by rw [HV.out];rfl,HX.out,trivial⟩
 rw [decide_eq_false h];have H1:=Hi h;clear h
 go_wp2_with fail
 refine cM (de ⟨hn,ha,hl,hc,hb,hm,hd⟩ ⟨un,ua,ul,uc,ub,um,ud⟩ (hiV a b) x _ (HH.out.raw ZB.out zo) HU.out) fun x16 w16 hE _=>?_
 refine mV8 hE ?_ HX HS HT HU B2 B3 HL HH;clear HX HS HT HU B2 B3 HL HH;intro HX HS HT HU B2 B3 HL HH;have hs_w16:=hE.size;replace b_B2:=bX3 B2;replace b_B3:=bX3 B3;have HV:Hid (decide (loV a b≤x∧x≤hiV a b)=!decide (hiV a b<x)):=Hi (by
  have h1:=H1.out;by_cases h:hiV a b<x
  ·rw [decide_eq_true h,decide_eq_false (fun k=>by have:=k.2;grind)];rfl
  ·rw [decide_eq_false h,decide_eq_true ⟨by grind,by grind⟩];rfl)
 obtain ⟨r,hr⟩:∃ r,r=decide (hiV a b<x):=⟨_,rfl⟩;rw [←hr] at HV ⊢;clear hr H1;go_wp2
 go_ret
 exact ⟨(),by rw [HV.out];rfl,HX.out,trivial⟩
def oL(n:Int):Rat:=((n % 25-12:Int):Rat) / ((12:Int):Rat)
theorem pJ(n:Int)(w:World)(h1:-9223372036854775808≤n)(h2:n≤9223372036854775807):au 31 [.int .i64 n] w RH.v (fun x w'=>aB w' x (oL n)):=by
 have HX:=Hi (Ext.refl w);unfold au;go_enter Tryz.func31,Tryz.ntmps31
 go_upto_region 1 with fail
 refine nmA ?_;intro w1 hE B2 hz_w1 hr_w1;replace HX:=hE.tr HX;have hs_w1:=hE.size;replace b_B2:=bX3 B2
 go_wp2_with fail
 refine cM (t8 n 25 _ h1 h2 dZ dZ) fun x4 w4 hE _=>?_
 refine mV2 hE ?_ B2 HX;clear B2 HX;intro B2 HX;have hs_w4:=hE.size;replace b_B2:=bX3 B2;have e1:=Int.emod_nonneg n (show (25:Int)≠0 by decide);have e2:=Int.emod_lt_of_pos n (show (0:Int)<25 by decide);obtain ⟨m,hm⟩:∃ m,m=n % 25:=⟨_,rfl⟩;have HC:Hid (oL n=((m-12:Int):Rat) / ((12:Int):Rat)):=Hi (by rw [hm];rfl);rw [←hm] at e1 e2 ⊢;clear hm
 go_wp2_with fail
 refine cM (lR (m-12) 12 _ zo zo dZ dZ) fun x6 w6 hE G6=>?_
 refine mV2 hE ?_ B2 HX;clear B2 HX;intro B2 HX;have hs_w6:=hE.size;replace b_B2:=bX3 B2;go_wp2;refine bi (F:=fun W=>bodyPost _ _ _ _ _ W) B2.out rfl ?_;intro w10 T;replace HX:=Hi (T.ext HX.out zo);replace B2:=Hi (T.bx);replace G6:=Hi (G6.out.keep T.keep);have hs_w10:=nle T.size;have hr_w10:=nle T.size.symm;clear T;replace b_B2:=bX3 B2;exact nXa (v:=RH.v x6) (by simp [results,Tryz.results31,go_sem,b_B2.1]) rfl ⟨x6,rfl,HX.out,by rw [HC.out];exact G6.out⟩
theorem oH:∀ m:Nat,m<25→((((m:Int)-12:Int):Rat) / ((12:Int):Rat)).num.natAbs<W32∧((((m:Int)-12:Int):Rat) / ((12:Int):Rat)).den<W32∧-1≤(((m:Int)-12:Int):Rat) / ((12:Int):Rat)∧(((m:Int)-12:Int):Rat) / ((12:Int):Rat)≤1∧(((m:Int)-12:Int):Rat) / ((12:Int):Rat)*12=(((m:Int)-12:Int):Rat):=by decide +kernel
theorem rj(n:Int):∃ m:Nat,m<25∧oL n=(((m:Int)-12:Int):Rat) / ((12:Int):Rat):=by
 have e1:=Int.emod_nonneg n (show (25:Int)≠0 by decide);have e2:=Int.emod_lt_of_pos n (show (0:Int)<25 by decide);refine ⟨(n % 25).toNat,zo,?_⟩;unfold oL;rw [show (((n % 25).toNat:Nat):Int)=n % 25 by omega]
theorem iB(n:Int):Sz 1 (oL n):=by
 obtain ⟨m,hm,e⟩:=rj n;rw [e];have h:=oH m hm;exact ⟨by rw [Nat.pow_one];exact h.1,by rw [Nat.pow_one];exact h.2.1⟩
theorem AJ(n:Int):∃ z:Int,oL n*12=(z:Rat)∧z.natAbs≤12:=by
 obtain ⟨m,hm,e⟩:=rj n;rw [e];exact ⟨(m:Int)-12,(oH m hm).2.2.2.2,zo⟩
theorem BQ(m n:Int)(w:World)(h1:-9223372036854775808≤m)(h2:m≤9223372036854775807)(k1:-9223372036854775808≤n)(k2:n≤9223372036854775807):au 30 [.int .i64 m,.int .i64 n] w IvV (fun x w'=>aB w' x.1 (loV (oL m) (oL n))∧aB w' x.2 (hiV (oL m) (oL n))):=by
 have HX:=Hi (Ext.refl w);have Z1:=Hi (iB m);have Z2:=Hi (iB n);unfold au;go_enter Tryz.func30,Tryz.ntmps30
 go_upto_region 1 with fail
 refine nmA ?_;intro w1 hE B4 hz_w1 hr_w1;replace HX:=hE.tr HX;have hs_w1:=hE.size;replace b_B4:=bX3 B4
 go_wp2_with fail
 refine cM (pJ m _ h1 h2) fun x6 w6 hE G6=>?_
 refine mV2 hE ?_ B4 HX;clear B4 HX;intro B4 HX;have hs_w6:=hE.size;replace b_B4:=bX3 B4
 go_wp2_with fail
 refine cM (pJ n _ k1 k2) fun x8 w8 hE G8=>?_
 refine mV3 hE ?_ G6 B4 HX;clear G6 B4 HX;intro G6 B4 HX;have hs_w8:=hE.size;replace b_B4:=bX3 B4
 go_wp2_with fail
 refine cM (fp x6 x8 _ _ _ (G6.out.raw Z1.out dZ) (G8.out.raw Z2.out dZ)) fun x9 w9 hE G9=>?_
 refine mV4 hE ?_ G8 G6 B4 HX;clear G8 G6 B4 HX;intro G8 G6 B4 HX;have hs_w9:=hE.size;replace b_B4:=bX3 B4;have HL:=Hi G9.out.1;have HH:=Hi G9.out.2;clear G9;go_wp2;refine df (F:=fun W=>bodyPost _ _ _ _ _ W) B4.out rfl ?_;intro w10 T;replace HX:=Hi (T.ext HX.out zo);replace B4:=Hi (T.bx);replace G6:=Hi (G6.out.keep T.keep);replace G8:=Hi (G8.out.keep T.keep);replace HL:=Hi (HL.out.keep T.keep);replace HH:=Hi (HH.out.keep T.keep);have hs_w10:=nle T.size;have hr_w10:=nle T.size.symm;clear T;replace b_B4:=bX3 B4;exact nXa (v:=IvV x9) (by simp [results,Tryz.results30,go_sem,b_B4.1]) rfl ⟨x9,rfl,HX.out,HL.out,HH.out⟩
open Sg
theorem BH{K:Nat}:∀ (fuel:Nat) (a b:List Rat) (X:Nat),RmI K a b X→∀ m ∈ chn fuel a b,∀ y ∈ m,Wz K y:=by
 intro fuel;induction fuel with
 | zero=>intro a b X _ m hm;simp [chn] at hm
 | succ fuel ih =>
  intro a b X h m hm;have hs:=h.small;by_cases ha:a=[]
  ·rw [show chn (fuel+1) a b=[] by simp [chn,ha]] at hm;simp at hm
  ·by_cases hb:b=[]
   ·subst hb;rw [cX ha] at hm;obtain rfl:m=a:=by simpa using hm
    exact fun y hy=>(h.2.2.1 y hy).mono zo
   ·rw [dS ha hb] at hm;rcases List.mem_cons.1 hm with rfl|hm
    ·exact fun y hy=>(h.2.2.1 y hy).mono zo
    ·obtain ⟨s,r,f,hf,hdv⟩:=uM (uN h.2.2.1 h.2.2.2.1 h.1 h.2.1 hb);obtain ⟨hN,X2,hI2⟩:=h.next hb hf hdv;rw [hN] at hI2;exact ih _ _ _ hI2 m hm
theorem zM{K S D:Nat}{p:List Rat}(hS:1≤S)(hD:0<D)(hf:FrL S D p)(hl:p.length≤1000)(h0:tz p≠[])(hK:KZ K S p.length):∀ m ∈ remsV p,∀ y ∈ m,Wz K y:=by
 obtain ⟨X,-,h⟩:=jA hS hD hf hl h0 hK;rw [mA] at h;exact BH _ _ _ X h
theorem CI:∀ (fuel:Nat) (a b:List Rat),tz a=a→tz b=b→∀ m ∈ chn fuel a b,tz m=m:=by
 intro fuel;induction fuel with
 | zero=>intro a b _ _ m hm;simp [chn] at hm
 | succ fuel ih =>
  intro a b h1 h2 m hm;by_cases ha:a=[]
  ·rw [show chn (fuel+1) a b=[] by simp [chn,ha]] at hm;simp at hm
  ·by_cases hb:b=[]
   ·subst hb;rw [cX ha] at hm;obtain rfl:m=a:=by simpa using hm
    exact h1
   ·rw [dS ha hb] at hm;rcases List.mem_cons.1 hm with rfl|hm
    ·exact h1
    ·exact ih _ _ h2 (aX _) m hm
theorem vt{K S D T:Nat}{p:List Rat}{x:Rat}(hS:1≤S)(hD:0<D)(hf:FrL S D p)(hl:p.length≤100)(h0:tz p≠[])(hK:KZ K S p.length)(hK2:K≤30000000)(hx:Sz T x)(hT:T≤20000):Mz (lz p) x:=by
 have h1:=zM hS hD hf zo h0 hK;have h2:=i6 p;have h3:=mM h0;have hK1:1≤K:=by have:=hK.small;omega
 rw [pL];refine ⟨by rw [nXl];omega,fun k hk=>?_⟩;rw [nXl] at hk;have hm:(remsV p).getD k [] ∈ remsV p:=by
  rw [nXd,List.getElem?_eq_getElem hk];exact List.getElem_mem _
 have e:((remsV p).map bC).getD k []=bC ((remsV p).getD k []):=by
  rw [nXd,nXd,nXv,List.getElem?_eq_getElem hk];rfl
 have ht:tz ((remsV p).getD k [])=(remsV p).getD k []:=CI _ _ _ (aX _) (aX _) _ hm;have hml:=h3 _ hm;obtain ⟨E,e1,e2,e3⟩:=oP (h1 _ hm) ht hK1;rw [e];have hul:(bC ((remsV p).getD k [])).length≤100:=by rw [kq,ht];omega
 refine ⟨hul,(e3.sz hK1 e1 e2).mono zo,fun j hj=>(yT e3 hx hK1 e1 e2 j).mono ?_⟩;have h5:(bC ((remsV p).getD k [])).length*(T+1)≤100*20001:=nXx hul zo;omega
theorem rR(v:SH)(ms:List (List Rat))(s t:RH)(a b:Rat)(w:World)(hc:ChR w v ms)(hza:Mz ms a)(hzb:Mz ms b)(hs:aB w s a)(ht:aB w t b)(za:Sz 10000000 a)(zb:Sz 10000000 b) :
  au 74 [v.v,s.v,t.v] w (fun _:Unit=>.int .i64 ((cw ms a:Int)-cw ms b)) (fun _ _=>True):=by
 obtain ⟨va,vn,vc⟩:=v;obtain ⟨sn,sa,sl,sc,sb,sm,sd⟩:=s;obtain ⟨tn,ta,tl,tc,tb,tm,td⟩:=t;have HX:=Hi (Ext.refl w);have HC:=Hi hc;have HS:=Hi hs;have HT:=Hi ht;have ZA:=Hi za;have ZB:=Hi zb;have HMA:=Hi hza;have HMB:=Hi hzb;have hl:=hza.ln;have v1:=gW ms a;have v2:=gW ms b;obtain ⟨x1,hx1⟩:∃ x1,x1=cw ms a:=⟨_,rfl⟩;obtain ⟨x2,hx2⟩:∃ x2,x2=cw ms b:=⟨_,rfl⟩;have HV1:=Hi hx1;have HV2:=Hi hx2;have HE:Hid ((cw ms a:Int)-cw ms b=(x1:Int)-(x2:Int)):=Hi (by rw [hx1,hx2]);rw [←hx1] at v1;rw [←hx2] at v2;clear hc hs ht za zb hx1 hx2 hza hzb;unfold au;go_enter Tryz.func74,Tryz.ntmps74;simp only [SH.v]
 go_upto_region 1 with fail
 refine hZ ?_;intro w1 hE B4 B5 hz_w1 hr_w1;refine mV4 hE ?_ HX HC HS HT;clear HX HC HS HT;intro HX HC HS HT;have hs_w1:=hE.size;replace b_B4:=bX3 B4;replace b_B5:=bX3 B5;refine wpG 7 (fun opIx=>match opIx with
  | 2=>sU (.int .i64 (x1:Nat))
  | 5=>sU (.int .i64 (x2:Nat))
  | _=>.quiet) (fun _=>[]) fun w0 he0 hz0 hc0 hf0=>?_
 refine wps he0 (fun w1 hW hG=>?_) fun x20=>?_
 ·exact spc [SH.v ⟨va,vn,vc⟩,RH.v ⟨sn,sa,sl,sc,sb,sm,sd⟩] Tryz.func137 ((by rw [HV1.out];exact pU ⟨va,vn,vc⟩ ms ⟨sn,sa,sl,sc,sb,sm,sd⟩ a _ (HC.out.ext hW) HMA.out (HS.out.ext hW) ZA.out))
 refine qZ ?_;refine wps he0 (fun w1 hW hG=>?_) fun x21=>?_
 ·exact spc [SH.v ⟨va,vn,vc⟩,RH.v ⟨tn,ta,tl,tc,tb,tm,td⟩] Tryz.func137 ((by rw [HV2.out];exact pU ⟨va,vn,vc⟩ ms ⟨tn,ta,tl,tc,tb,tm,td⟩ b _ (HC.out.ext hW) HMB.out (HT.out.ext hW) ZB.out))
 refine qZ ?_;refine aq ?_;intro w2 hI;have hE:=he0.out.trans hI.ext;clear hI he0 hz0 hc0 hf0;refine mV6 hE ?_ B4 B5 HX HS HC HT;clear B4 B5 HX HS HC HT;intro B4 B5 HX HS HC HT;have hs_w2:=hE.size;replace b_B4:=bX3 B4;replace b_B5:=bX3 B5;simp only [pD];go_wp2
 go_ret
 exact ⟨(),by rw [HE.out];rfl,HX.out,trivial⟩
theorem tF(pa:Option Addr)(P pc:Nat)(l:List Rat)(K:Nat)(w:World)(h:cD w ⟨pa,P,pc⟩ l)(hP:P≤500)(h0:tz (tz l)≠[])(hk:FrK K (tz l))(hK:K≤3900000)(hK2:(P+1)*(K / 3)≤25000000)(hs:FrK K (sqfV (tz l))) :
  au 73 [.slice pa P pc] w SH.v (fun x w'=>bw w' x (sqfV (tz l))):=by
 have LR:=Hi h;have HX:=Hi (Ext.refl w);have Hln:=Hi h.len;simp only at Hln;obtain ⟨p,hp⟩:∃ p,p=tz l:=⟨_,rfl⟩;rw [←hp] at h0 hk hs ⊢;have Hp:=Hi hp;have hlen:p.length≤P:=by rw [hp,←Hln.out];exact ah l
 have htp:tz p=p:=by rw [hp,aM]
 obtain ⟨S,D,hS,hD,hD2,hf,hSK⟩:=hk;obtain ⟨U,E,hU,hE,hE2,hfU,hUK⟩:=hs;have hp1:1≤p.length:=by
  have:=ah p;have:=nYg.2 h0;omega
 have hS3:=KZ.small3 hp1 hSK;have hUs:=KZ.small hUK;have hz:=hf.sz hS hD hD2;have HSz:Hid (SzL S p):=Hi hz;have HQ:Hid (SzL 8000000 (bD p (bN p (derL p)))):=Hi ((yy h0 hz (hfU.sz hU hE hE2)).mono zo);have HF:Hid (FrL (S+1) D p):=Hi (hf.mono zo);have HF1:Hid (FrL S D p):=Hi hf;have HDF:Hid (∀ x ∈ tz (derL p),Fr (S+1) D x):=Hi (fu hf zo);have hD3:D<W32 ^ (S+1):=nXn hD2 (nXp ay zo);have HDl:Hid ((tz (derL p)).length+1≤P):=Hi (by have:=ft h0;omega);have hgl0:(bN p (derL p)).length≤P:=by have:=pu h0;omega
 have hql0:(bD p (bN p (derL p))).length≤P:=by have:=o7 h0;omega
 have HG0:Hid (tz (bN p (derL p))≠[]):=Hi (mf h0);have HSK:Hid (GZ K (S+1) p (tz (derL p))):=Hi (uo hD hf zo h0 hSK);obtain ⟨m0,hm0⟩:∃ m0,p.length=m0+1:=⟨p.length-1,zo⟩;have HM0:=Hi hm0;clear h hf hfU hUK hSK hz h0 hp1 hp hm0;unfold au;go_enter Tryz.func73,Tryz.ntmps73
 go_wp2_with fail
 refine cM (bJ pa P pc l _ LR.out zo) fun x7 w7 hE G7=>?_
 replace HX:=hE.tr HX;have hs_w7:=hE.size;clear hE;obtain ⟨qa,Q,qc⟩:=x7;have LP:Hid (LIn w7 ⟨qa,Q,qc⟩ p 0 w7.heap.size):=Hi (by rw [Hp.out];exact G7.out.can.lin);have hQ:Q=m0+1:=by have h1:=LP.out.len;have h2:=HM0.out;simp only at h1;omega
 subst hQ;have hQP:m0+1≤P:=by have:=HM0.out;omega
 have hz0:((m0:Int)+1 == 0)=false:=by rw [nXs];omega
 clear G7;simp only [SH.v]
 go_wp2_with fail
 refine cM (q9 qa (m0+1) qc p _ LP.out.can zo (HSz.out.mono zo)) fun x15 w15 hE G15=>?_
 refine mV2 hE ?_ HX LP;clear HX LP;intro HX LP;have hs_w15:=hE.size;clear hE;obtain ⟨da,dn,dc⟩:=x15;have HD3:Hid (LIn w15 ⟨da,dn,dc⟩ (tz (derL p)) 0 w15.heap.size):=Hi G15.out.can.lin;clear G15;have hdn:dn+1≤P:=by have h1:=HD3.out.len;have h2:=HDl.out;simp only at h1;omega
 simp only [SH.v]
 go_wp2_with fail
 refine cM (xG qa da (m0+1) qc dn dc p (tz (derL p)) (S+1) D D _ LP.out.can HD3.out.can zo zo zo hD hD3 hD hD3 HF.out HDF.out K HSK.out zo) fun x16 w16 hE G16=>?_
 refine mV3 hE ?_ HX LP HD3;clear HX LP HD3;intro HX LP HD3;have hs_w16:=hE.size;clear hE;rw [gH] at G16;obtain ⟨ga,gn,gc⟩:=x16;have HGL:=Hi G16.out.1.lin;obtain ⟨X,F,hFX,hX1,hF0,hF2,hXK⟩:=G16.out.2;have HFX:=Hi hFX;have hX3:=GcR.small hXK;clear G16 hFX hXK;have hgl:=HGL.out.len;simp only at hgl;have hgm:gn≤P:=zo;have Hgl:=Hi hgl;clear hgl;clear HD3;have hm1:P*(X+1)≤P*(K / 3):=nXg _ hX3;have hm2:(P+1)*(K / 3)=P*(K / 3)+K / 3:=nXy _ _;have hm3:(m0+1+1)*(X+1)≤(P+1)*(K / 3):=nXx zo hX3
 (try dsimp only)
 go_wp2_with fail
 refine cM (pE qa ga (m0+1) qc gn gc p (bN p (derL p)) S X D F _ LP.out.can HGL.out.can zo zo hS hX1 hD hD2 hF0 hF2 HF1.out HFX.out HG0.out zo) fun x17 w17 hE G17=>?_
 refine mV3 hE ?_ HX LP HGL;clear HX LP HGL;intro HX LP HGL;have hs_w17:=hE.size;clear hE;obtain ⟨⟨ea,en,ec⟩,⟨ra,rn,rc⟩⟩:=x17;have HQL:=Hi G17.out.1.lin;clear G17;have hqn:=HQL.out.len;simp only at hqn;have hen:en≤P:=zo;clear hqn;simp only [QT] at *
 (try dsimp only)
 go_wp2_with fail
 refine cM (j8 ea en ec (bD p (bN p (derL p))) 8000000 _ HQL.out.can zo zo HQ.out) fun x22 w22 hE G22=>?_
 refine mV4 hE ?_ HX LP HGL HQL;clear HX LP HGL HQL;intro HX LP HGL HQL;have hs_w22:=hE.size;clear hE;go_wp2
 go_ret
 exact ⟨x22,rfl,HX.out,G22.out.can⟩
def Fn(A:Prop):Prop:=Unit→A
theorem sr(pa:Option Addr)(P pc:Nat)(l:List Rat)(K:Nat)(s t:RH)(a b:Rat)(T:Nat)(w:World)(h:cD w ⟨pa,P,pc⟩ l)(hP:P≤49)(h0:tz l≠[])(hk:FrK K (tz l))(hK:K≤3900000)(hK2:(P+1)*(K / 3)≤25000000)(hsq:FrK K (sqfV (tz l)))
 (hs:aS w s a)(ht:aS w t b)(za:Sz T a)(zb:Sz T b)(hT3:T≤20000) :
  au 23 [.slice pa P pc,IvV (s,t)] w (fun _:Unit=>.tuple #[.int .i64 (vN (tz l) (loV a b) (hiV a b)),.int .i64 0]) (fun _ _=>True):=by
 obtain ⟨sn,sa,sl,sc,sb,sm,sd⟩:=s;obtain ⟨tn,ta,tl,tc,tb,tm,td⟩:=t;have HX:=Hi (Ext.refl w);have LP:=Hi h;have LPw:=Hi h;have HS:=Hi hs;have HT:=Hi ht;have hlen:=h.len;simp only at hlen;have HKp:=Hi hk;have HKs:=Hi hsq;have h00:tz (tz l)≠[]:=by rw [aM];exact h0
 have H0:=Hi h00;have hq0:=(kx h00).ne;have ZA:Hid (Sz T (loV a b)):=Hi (by rcases n4 a b with e|e <;> rw [e] <;> assumption);have ZB:Hid (Sz T (hiV a b)):=Hi (by rcases oh a b with e|e <;> rw [e] <;> assumption);obtain ⟨N,hN⟩:∃ N,N=(tz l).length:=⟨_,rfl⟩;have hN1:1≤N:=by rw [hN];exact nYg.2 h0
 have hN2:N≤49:=by rw [hN];have:=ah l;omega
 have HN:=Hi hN;obtain ⟨q,hq⟩:∃ q,q=sqfV (tz l):=⟨_,rfl⟩;have hql:q.length≤49:=by rw [hq];have:=mz h00;have:=ah l;omega
 rw [←hq] at hq0 hsq;obtain ⟨U,E,hU,hE,hE2,hfU,hUK⟩:=hsq;have hUs:=KZ.small hUK;have HFU:=Hi hfU;have HUK:=Hi hUK;have HQ0:=Hi hq0;obtain ⟨lo,hlo⟩:∃ lo,lo=loV a b:=⟨_,rfl⟩;obtain ⟨hi,hhi⟩:∃ hi,hi=hiV a b:=⟨_,rfl⟩;rw [←hlo] at ZA;rw [←hhi] at ZB;have HMA:Hid (Mz (lz q) lo):=Hi (vt hU hE hfU zo hq0 hUK zo ZA.out zo);have HMB:Hid (Mz (lz q) hi):=Hi (vt hU hE hfU zo hq0 hUK zo ZB.out zo);have HSQ:Hid (SzL 40000000 q):=Hi ((hfU.sz hU hE hE2).mono zo);have HEV:Hid (∀ k,k≤q.length→Sz 40000000 (evV (q.drop k) lo)):=Hi (fun k hk=>(yT hfU ZA.out hU hE hE2 k).mono (by
  have:q.length*(T+1)≤49*20001:=nXx hql zo;omega))
 have v1:=gW (lz q) lo;have v2:=gW (lz q) hi;have hml:=HMA.out.ln;obtain ⟨r,hr⟩:∃ r:Int,r=(cw (lz q) lo:Int)-cw (lz q) hi:=⟨_,rfl⟩;have hr1:-1000≤r∧r≤1000:=zo;have HR:=Hi hr;have HCN:Hid (Fn (vN (tz l) (loV a b) (hiV a b)=r+(if Sg.sg (evV q lo)=0 then 1 else 0))):=Hi (fun _=>by rw [hr,←hlo,←hhi,hq];rfl);have HQE:=Hi hq;have HLO:=Hi hlo;have HHI:=Hi hhi;clear h hs ht hk h0 h00 za zb hlo hhi hlen hN hq hq0 hfU hUK v1 v2 hml hr;unfold au;go_enter Tryz.func23,Tryz.ntmps23
 go_upto_region 1 with fail
 refine nmA ?_;intro w1 hE B3 hz_w1 hr_w1;refine mV4 hE ?_ HX LP HS HT;clear HX LP HS HT;intro HX LP HS HT;have hs_w1:=hE.size;clear hE;replace b_B3:=bX3 B3
 go_wp2_with fail
 refine cM (lx pa P pc l _ LP.out zo) fun x10 w10 hE _=>?_
 refine mV5 hE ?_ B3 HX LP HS HT;clear B3 HX LP HS HT;intro B3 HX LP HS HT;have hs_w10:=hE.size;clear hE;replace b_B3:=bX3 B3;rw [←HN.out];have hg1:¬ (48:Int)<(N:Int)-1:=zo;have hg2:¬ (N:Int)-1<0:=zo
 go_wp2_with fail
 refine cM (dq ⟨sn,sa,sl,sc,sb,sm,sd⟩ ⟨tn,ta,tl,tc,tb,tm,td⟩ a b _ HS.out HT.out) fun x18 w18 hE G18=>?_
 refine mV5 hE ?_ B3 HX LP HS HT;clear B3 HX LP HS HT;intro B3 HX LP HS HT;have hs_w18:=hE.size;clear hE;replace b_B3:=bX3 B3;obtain ⟨⟨ln,la,ll,lc,lb,lm,ld⟩,⟨hn,ha,hl,hc,hb,hm,hd⟩⟩:=x18;rw [←HLO.out,←HHI.out] at G18;have HL:=Hi G18.out.1;have HH:=Hi G18.out.2;clear G18 hg1 hg2;clear HS;clear HT;clear LP
 go_upto_region 7 with fail
 refine df B3.out rfl ?_;intro w19 T;replace HX:=Hi (T.ext HX.out zo);replace B3:=Hi (T.bx);replace HL:=Hi (HL.out.keep T.keep);replace HH:=Hi (HH.out.keep T.keep);have hs_w19:=nle T.size;have hr_w19:=nle T.size.symm;clear T;replace b_B3:=bX3 B3
 go_wp2_with fail
 refine cM (tF pa P pc l K _ (LPw.out.ext HX.out) zo H0.out HKp.out hK hK2 HKs.out) fun x20 w20 hE G20=>?_
 refine mV4 hE ?_ HX B3 HL HH;clear HX B3 HL HH;intro HX B3 HL HH;have hs_w20:=hE.size;clear hE;replace b_B3:=bX3 B3;obtain ⟨qa,qn,qc⟩:=x20;rw [←HQE.out] at G20;have LQ:=Hi G20.out.lin;have hqn:qn≤49:=by have h1:=G20.out.len;simp only at h1;omega
 have HQl:Hid (q.length=qn):=Hi G20.out.len;clear G20;simp only [SH.v]
 go_upto_region 8 with fail
 have HUK2:Hid (KZ K U qn):=Hi (by rw [←HQl.out];exact HUK.out);refine wpG 7 (fun opIx=>match opIx with
  | 1=>.spec (SH) (default) (SH.v) (fun x w'=>ChR w' x (lz q))
  | 6=>sU (.int .i64 r)
  | _=>.quiet) (fun|6=>[1]|_=>[]) fun w0 he0 hz0 hc0 hf0=>?_
 refine wps he0 (fun w1 hW hG=>?_) fun x30=>?_
 ·exact spc [.slice qa qn qc] Tryz.func75 (su qa qn qc q U E K _ (LQ.out.can.ext hW) zo HQ0.out hU hE hE2 HFU.out HUK2.out zo)
 refine qZ ?_;refine wps he0 (fun w1 hW hG=>?_) fun x31=>?_
 ·have g30:=gS (hG 1 dZ);exact spc [x30.v,RH.v ⟨ln,la,ll,lc,lb,lm,ld⟩,RH.v ⟨hn,ha,hl,hc,hb,hm,hd⟩] Tryz.func74 ((by rw [HR.out];exact rR x30 (lz q) ⟨ln,la,ll,lc,lb,lm,ld⟩ ⟨hn,ha,hl,hc,hb,hm,hd⟩ lo hi _ g30 HMA.out HMB.out (HL.out.ext hW) (HH.out.ext hW) (ZA.out.mono zo) (ZB.out.mono zo)))
 refine qZ ?_;refine aq ?_;intro w21 hI;have hE:=he0.out.trans hI.ext;have G30:=gT (hI.facts 1);clear hI he0 hz0 hc0 hf0;refine mV5 hE ?_ HX B3 LQ HL HH;clear HX B3 LQ HL HH;intro HX B3 LQ HL HH;have hs_w21:=hE.size;clear hE;replace b_B3:=bX3 B3;simp only [pD];clear G30
 go_wp2_with fail
 refine cM (ox qa qn qc q ⟨ln,la,ll,lc,lb,lm,ld⟩ lo _ LQ.out.can HL.out zo HSQ.out (ZA.out.mono zo) HEV.out) fun x31 w31 hE G31=>?_
 refine mV5 hE ?_ HX B3 LQ HL HH;clear HX B3 LQ HL HH;intro HX B3 LQ HL HH;have hs_w31:=hE.size;clear hE;replace b_B3:=bX3 B3
 go_wp2_with fail
 refine cM (jy x31 (evV q lo) _ (G31.out.raw (HEV.out 0 (Nat.zero_le _)) dZ)) fun x32 w32 hE _=>?_
 refine mV6 hE ?_ G31 HX B3 LQ HL HH;clear G31 HX B3 LQ HL HH;intro G31 HX B3 LQ HL HH;have hs_w32:=hE.size;clear hE;replace b_B3:=bX3 B3;rw [vj];obtain ⟨z,hz⟩:∃ z,z=Sg.sg (evV q lo):=⟨_,rfl⟩;have HCN2:Hid (Fn (vN (tz l) (loV a b) (hiV a b)=r+(if z=0 then 1 else 0))):=Hi (fun _=>by rw [HCN.out (),hz]);have hzs:=nH (evV q lo);rw [←hz] at hzs ⊢;clear hz HCN;clear G31;by_cases h1:z=0
 case pos =>
  subst h1;have HE2:Hid (Fn (vN (tz l) (loV a b) (hiV a b)=r+1)):=Hi (fun _=>by rw [HCN2.out (),if_pos rfl]);clear HCN2;go_wp2;exact nXa (v:=.tuple #[.int .i64 (vN (tz l) (loV a b) (hiV a b)),.int .i64 0]) (by rw [HE2.out ()];simp [results,Tryz.results23,go_sem]) rfl ⟨(),rfl,HX.out,trivial⟩
 have hzb:(z == 0)=false:=by rw [nXs];exact h1
 have HE2:Hid (Fn (vN (tz l) (loV a b) (hiV a b)=r)):=Hi (fun _=>by rw [HCN2.out (),if_neg h1];omega);clear HCN2;go_wp2;exact nXa (v:=.tuple #[.int .i64 (vN (tz l) (loV a b) (hiV a b)),.int .i64 0]) (by rw [HE2.out ()];simp [results,Tryz.results23,go_sem]) rfl ⟨(),rfl,HX.out,trivial⟩
theorem pI(pa:Option Addr)(P pc:Nat)(l:List Rat)(v:Value)(s t:RH)(w:World)(h:cD w ⟨pa,P,pc⟩ l)(hP:P≤1000000)(h0:tz l=[]) :
  au 23 [.slice pa P pc,IvV (s,t)] w (fun _:Unit=>.tuple #[.int .i64 0,.int .i64 3]) (fun _ _=>True):=by
 have HX:=Hi (Ext.refl w);have LP:=Hi h;have H0:=Hi h0;obtain ⟨sn,sa,sl,sc,sb,sm,sd⟩:=s;obtain ⟨tn,ta,tl,tc,tb,tm,td⟩:=t;clear h h0;unfold au;go_enter Tryz.func23,Tryz.ntmps23
 go_upto_region 1 with fail
 refine nmA ?_;intro w1 hE B3 hz_w1 hr_w1;refine mV2 hE ?_ HX LP;clear HX LP;intro HX LP;have hs_w1:=hE.size;replace b_B3:=bX3 B3
 go_wp2_with fail
 refine cM (lx pa P pc l _ LP.out zo) fun x10 w10 hE _=>?_
 refine mV3 hE ?_ B3 HX LP;clear B3 HX LP;intro B3 HX LP;have hs_w10:=hE.size;replace b_B3:=bX3 B3;rw [H0.out];simp only [List.length_nil];go_wp2;exact nXa (v:=.tuple #[.int .i64 0,.int .i64 3]) (by simp [results,Tryz.results23,go_sem]) rfl ⟨(),rfl,HX.out,trivial⟩
end Go.Proofs.YtafgmcimcbhhjaaGreat
