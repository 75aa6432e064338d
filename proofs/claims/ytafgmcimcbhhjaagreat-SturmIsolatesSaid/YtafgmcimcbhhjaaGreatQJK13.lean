import Derived.Test.YtafgmcimcbhhjaaGreatQJK12
set_option linter.unusedVariables false
set_option maxHeartbeats 8000000
set_option maxRecDepth 8000
namespace Go.Proofs.YtafgmcimcbhhjaaGreat
open Go.RowKit Go.Front Go.Num Stab
attribute [local go_sem] XW.cell XW.frozen
abbrev IvV(x:RH×RH):Value:=.agg #[.bool x.1.neg,.slice x.1.a x.1.n x.1.c,.slice x.1.b x.1.m x.1.d,.bool x.2.neg,.slice x.2.a x.2.n x.2.c,.slice x.2.b x.2.m x.2.d]
def loV(a b:Rat):Rat:=if b<a then b else a
def hiV(a b:Rat):Rat:=if b<a then a else b
theorem xg(a b:Rat):loV a b≤hiV a b:=by
 unfold loV hiV;by_cases h:b<a
 ·rw [if_pos h,if_pos h];grind
 ·rw [if_neg h,if_neg h];grind
theorem lE{a b:Rat}(h:a≤b):loV a b=a:=if_neg (by grind)
theorem lF{a b:Rat}(h:a≤b):hiV a b=b:=if_neg (by grind)
theorem n4(a b:Rat):loV a b=a∨loV a b=b:=by unfold loV;split <;> simp
theorem oh(a b:Rat):hiV a b=a∨hiV a b=b:=by unfold hiV;split <;> simp
theorem AT{a b:Rat}(h:b<a):dJ a b=1:=by unfold dJ;rw [if_neg (by grind),if_neg (by grind)]
theorem AS{a b:Rat}(h:¬ b<a):dJ a b≤0:=by
 unfold dJ;split
 ·omega
 ·split
  ·omega
  ·exfalso;grind
theorem df{w1:World}{b:Nat}{T:TypeId}{c0 c1 c2 c3 c4 c5 v0 v1 v2 v3 v4 v5:Value}{F:World→Prop}(hb:w1.heap[b]?=some (.cells #[c0,c1,c2,c3,c4,c5] T (0,0)))(hn:#[c0,c1,c2,c3,c4,c5].toList.all fj=true)(h:∀ w2,dK w1 b T #[v0,v1,v2,v3,v4,v5] w2→F w2) :
  F ((((((w1.setCell ⟨b,0,none⟩ v0).setCell ⟨b,1,none⟩ v1).setCell ⟨b,2,none⟩ v2).setCell ⟨b,3,none⟩ v3).setCell ⟨b,4,none⟩ v4).setCell ⟨b,5,none⟩ v5) :=
 h _ (dK.of (nXb.1 hb).1 (aj hb hn) ((((((aV.setCell w1 ⟨b,0,none⟩ v0).trans (aV.setCell _ ⟨b,1,none⟩ v1)).trans (aV.setCell _ ⟨b,2,none⟩ v2)).trans (aV.setCell _ ⟨b,3,none⟩ v3)).trans (aV.setCell _ ⟨b,4,none⟩ v4)).trans (aV.setCell _ ⟨b,5,none⟩ v5)) (by simp [World.setCell])
  (aH (aH (aH (aH (aH (aH hb 0 v0) 1 v1) 2 v2) 3 v3) 4 v4) 5 v5))
theorem r6(s t:RH)(a b:Rat)(w:World)(hs:aS w s a)(ht:aS w t b):au 169 [IvV (s,t)] w PT (fun x w'=>aS w' x.1 (loV a b)∧aS w' x.2 (hiV a b)):=by
 have HX:=Hi (Ext.refl w);have HS:=Hi hs;have HT:=Hi ht;clear hs ht;unfold au;go_enter Tryz.func169,Tryz.ntmps169;obtain ⟨sn,sa,sl,sc,sb,sm,sd⟩:=s;obtain ⟨tn,ta,tl,tc,tb,tm,td⟩:=t
 go_upto_region 1 with fail
 refine rX ?_;intro w1 hE B1 B2 B3 hz_w1 hr_w1;refine mV3 hE ?_ HX HS HT;clear HX HS HT;intro HX HS HT;have hs_w1:=hE.size;replace b_B1:=bX3 B1;replace b_B2:=bX3 B2;replace b_B3:=bX3 B3
 go_wp2_with fail
 refine cM (fh ⟨sn,sa,sl,sc,sb,sm,sd⟩ ⟨tn,ta,tl,tc,tb,tm,td⟩ a b _ HS.out HT.out) fun x8 w8 hE _=>?_
 refine mV6 hE ?_ B1 B2 B3 HX HS HT;clear B1 B2 B3 HX HS HT;intro B1 B2 B3 HX HS HT;have hs_w8:=hE.size;replace b_B1:=bX3 B1;replace b_B2:=bX3 B2;replace b_B3:=bX3 B3;by_cases h:b<a
 ·have hlo:Hid (loV a b=b∧hiV a b=a):=Hi ⟨if_pos h,if_pos h⟩;rw [AT h];clear h
  go_upto_region 2 with fail
  go_region
  refine mQ B2.out rfl B3.out rfl zo ?_;intro y3 y4 y5 T3 T4 E5;have HY:Hid (Ext w y5):=Hi ((T4.ext (T3.ext HX.out zo) zo).trans E5);have HS5:=Hi (((HS.out.keep T3.keep).keep T4.keep).ext E5);have HT5:=Hi (((HT.out.keep T3.keep).keep T4.keep).ext E5);have C2:=Hi (E5.block (T4.rest _ _ zo T3.bx));have C3:=Hi (E5.block T4.bx);have c_C2:=ae C2.out;have c_C3:=ae C3.out;clear T3 T4 E5 b_B1 b_B2 b_B3;go_wp2;exact nXa (v:=PT (⟨tn,ta,tl,tc,tb,tm,td⟩,⟨sn,sa,sl,sc,sb,sm,sd⟩)) (by simp [results,Tryz.results169,go_sem,PT,c_C2,c_C3]) rfl
   ⟨(⟨tn,ta,tl,tc,tb,tm,td⟩,⟨sn,sa,sl,sc,sb,sm,sd⟩),rfl,HY.out,by rw [hlo.out.1];exact HT5.out,by rw [hlo.out.2];exact HS5.out⟩
 ·have hlo:Hid (loV a b=a∧hiV a b=b):=Hi ⟨if_neg h,if_neg h⟩;have hc:=AS h;obtain ⟨c,e⟩:∃ c,c=dJ a b:=⟨_,rfl⟩;rw [←e] at hc ⊢;have hc2:¬ 0<c:=zo;clear h e
  go_upto_region 3 with fail
  go_region
  refine mQ B2.out rfl B3.out rfl zo ?_;intro y3 y4 y5 T3 T4 E5;have HY:Hid (Ext w y5):=Hi ((T4.ext (T3.ext HX.out zo) zo).trans E5);have HS5:=Hi (((HS.out.keep T3.keep).keep T4.keep).ext E5);have HT5:=Hi (((HT.out.keep T3.keep).keep T4.keep).ext E5);have C2:=Hi (E5.block (T4.rest _ _ zo T3.bx));have C3:=Hi (E5.block T4.bx);have c_C2:=ae C2.out;have c_C3:=ae C3.out;clear T3 T4 E5 b_B1 b_B2 b_B3;go_wp2;exact nXa (v:=PT (⟨sn,sa,sl,sc,sb,sm,sd⟩,⟨tn,ta,tl,tc,tb,tm,td⟩)) (by simp [results,Tryz.results169,go_sem,PT,c_C2,c_C3]) rfl
   ⟨(⟨sn,sa,sl,sc,sb,sm,sd⟩,⟨tn,ta,tl,tc,tb,tm,td⟩),rfl,HY.out,by rw [hlo.out.1];exact HS5.out,by rw [hlo.out.2];exact HT5.out⟩
theorem l9(s t:RH)(a b:Rat)(w:World)(hs:aS w s a)(ht:aS w t b):au 106 [s.v,t.v] w IvV (fun x w'=>aB w' x.1 (loV a b)∧aB w' x.2 (hiV a b)):=by
 have HX:=Hi (Ext.refl w);have HS:=Hi hs;have HT:=Hi ht;clear hs ht;unfold au;go_enter Tryz.func106,Tryz.ntmps106;obtain ⟨sn,sa,sl,sc,sb,sm,sd⟩:=s;obtain ⟨tn,ta,tl,tc,tb,tm,td⟩:=t
 go_upto_region 1 with fail
 refine rX ?_;intro w1 hE B2 B3 B4 hz_w1 hr_w1;refine mV3 hE ?_ HX HS HT;clear HX HS HT;intro HX HS HT;have hs_w1:=hE.size;replace b_B2:=bX3 B2;replace b_B3:=bX3 B3;replace b_B4:=bX3 B4
 go_wp2_with fail
 refine cM (r6 ⟨sn,sa,sl,sc,sb,sm,sd⟩ ⟨tn,ta,tl,tc,tb,tm,td⟩ a b _ HS.out HT.out) fun x7 w7 hE G7=>?_
 refine mV6 hE ?_ B2 B3 B4 HX HS HT;clear B2 B3 B4 HX HS HT;intro B2 B3 B4 HX HS HT;have hs_w7:=hE.size;replace b_B2:=bX3 B2;replace b_B3:=bX3 B3;replace b_B4:=bX3 B4;obtain ⟨⟨ln,la,ll,lc,lb,lm,ld⟩,⟨hn,ha,hl,hc,hb,hm,hd⟩⟩:=x7;have HL:=Hi G7.out.1;have HH:=Hi G7.out.2;clear G7
 (try clear b_B2);clear B2
 (try clear b_B3);clear B3
 clear HS;clear HT
 go_upto_region 2 with fail
 refine hZ ?_;intro w8 hE B5 B6 hz_w8 hr_w8;refine mV4 hE ?_ B4 HX HL HH;clear B4 HX HL HH;intro B4 HX HL HH;have hs_w8:=hE.size;replace b_B4:=bX3 B4;replace b_B5:=bX3 B5;replace b_B6:=bX3 B6;refine wpG 5 (fun opIx=>match opIx with
  | 1=>sR (loV a b)
  | 3=>sR (hiV a b)
  | _=>.quiet) (fun _=>[]) fun w0 he0 hz0 hc0 hf0=>?_
 refine wps he0 (fun w1 hW hG=>?_) fun x20=>?_
 ·exact spc [RH.v ⟨ln,la,ll,lc,lb,lm,ld⟩] Tryz.func78 (iY _ _ _ (HL.out.ext hW))
 refine qZ ?_;refine wps he0 (fun w1 hW hG=>?_) fun x21=>?_
 ·exact spc [RH.v ⟨hn,ha,hl,hc,hb,hm,hd⟩] Tryz.func78 (iY _ _ _ (HH.out.ext hW))
 refine qZ ?_;refine aq ?_;intro w9 hI;have hE:=he0.out.trans hI.ext;have G20:=gT (hI.facts 1);have G21:=gT (hI.facts 3);clear hI he0 hz0 hc0 hf0;refine mV6 hE ?_ B5 B6 B4 HX HL HH;clear B5 B6 B4 HX HL HH;intro B5 B6 B4 HX HL HH;have hs_w9:=hE.size;replace b_B4:=bX3 B4;replace b_B5:=bX3 B5;replace b_B6:=bX3 B6;simp only [pD];go_wp2;refine df (F:=fun W=>bodyPost _ _ _ _ _ W) B4.out rfl ?_;intro w10 T;replace HX:=Hi (T.ext HX.out zo);replace B4:=Hi (T.bx);replace HL:=Hi (HL.out.keep T.keep);replace HH:=Hi (HH.out.keep T.keep);replace B5:=Hi (T.rest _ _ zo B5.out);replace B6:=Hi (T.rest _ _ zo B6.out);replace G20:=Hi (G20.out.keep T.keep);replace G21:=Hi (G21.out.keep T.keep);have hs_w10:=nle T.size;have hr_w10:=nle T.size.symm;clear T;replace b_B4:=bX3 B4;replace b_B5:=bX3 B5;replace b_B6:=bX3 B6;exact nXa (v:=IvV (x20,x21)) (by simp [results,Tryz.results106,go_sem,b_B4.1]) rfl ⟨(x20,x21),rfl,HX.out,G20.out,G21.out⟩
theorem gE(s t:RH)(a b:Rat)(w:World)(hs:aS w s a)(ht:aS w t b):au 69 [IvV (s,t)] w IvV (fun x w'=>aB w' x.1 (loV a b)∧aB w' x.2 (hiV a b)):=by
 have HX:=Hi (Ext.refl w);have HS:=Hi hs;have HT:=Hi ht;clear hs ht;unfold au;go_enter Tryz.func69,Tryz.ntmps69;obtain ⟨sn,sa,sl,sc,sb,sm,sd⟩:=s;obtain ⟨tn,ta,tl,tc,tb,tm,td⟩:=t
 go_upto_region 1 with fail
 refine hZ ?_;intro w1 hE B1 B2 hz_w1 hr_w1;refine mV3 hE ?_ HX HS HT;clear HX HS HT;intro HX HS HT;have hs_w1:=hE.size;replace b_B1:=bX3 B1;replace b_B2:=bX3 B2
 go_wp2_with fail
 refine cM (l9 ⟨sn,sa,sl,sc,sb,sm,sd⟩ ⟨tn,ta,tl,tc,tb,tm,td⟩ a b _ HS.out HT.out) fun x7 w7 hE G7=>?_
 refine mV5 hE ?_ B1 B2 HX HS HT;clear B1 B2 HX HS HT;intro B1 B2 HX HS HT;have hs_w7:=hE.size;replace b_B1:=bX3 B1;replace b_B2:=bX3 B2;have HL:=Hi G7.out.1;have HH:=Hi G7.out.2;clear G7;go_wp2;refine df (F:=fun W=>bodyPost _ _ _ _ _ W) B2.out rfl ?_;intro w10 T;replace HX:=Hi (T.ext HX.out zo);replace HS:=Hi (HS.out.keep T.keep);replace HT:=Hi (HT.out.keep T.keep);replace B1:=Hi (T.rest _ _ zo B1.out);replace B2:=Hi (T.bx);replace HL:=Hi (HL.out.keep T.keep);replace HH:=Hi (HH.out.keep T.keep);have hs_w10:=nle T.size;have hr_w10:=nle T.size.symm;clear T;replace b_B1:=bX3 B1;replace b_B2:=bX3 B2;exact nXa (v:=IvV x7) (by simp [results,Tryz.results69,go_sem,b_B2.1]) rfl ⟨x7,rfl,HX.out,HL.out,HH.out⟩
open Sg
def btM(ms:List (List Rat))(lo hi:Rat):Int:=(cw ms lo:Int)-cw ms hi-(if rtV ms hi=true∧lo<hi then 1 else 0)
theorem kf{a b:Rat}:dJ a b<0↔a<b:=by
 unfold dJ;split
 ·exact ⟨fun _=>by assumption,fun _=>by decide⟩
 ·split <;> constructor <;> intro h <;> first|omega|contradiction
theorem qh(v:SH)(ms:List (List Rat))(K:Nat)(s t:RH)(a b:Rat)(T:Nat)(w:World)(hc:ChK w v ms K)(h0:0<ms.length)(hs:aB w s a)(ht:aB w t b)(za:Sz T a)(zb:Sz T b)(hT:1≤T)(hT3:T≤1000) :
  au 148 [CV v,s.v,t.v] w (fun _:Unit=>.int .i64 (btM ms a b)) (fun _ _=>True):=by
 obtain ⟨va,vn,vc⟩:=v;obtain ⟨sn,sa,sl,sc,sb,sm,sd⟩:=s;obtain ⟨tn,ta,tl,tc,tb,tm,td⟩:=t;have HX:=Hi (Ext.refl w);have HC:=Hi hc;have HS:=Hi hs;have HT:=Hi ht;have ZA:=Hi za;have ZB:=Hi zb;have hl:=hc.ln;have v1:=gW ms a;have v2:=gW ms b;obtain ⟨x1,hx1⟩:∃ x1,x1=cw ms a:=⟨_,rfl⟩;obtain ⟨x2,hx2⟩:∃ x2,x2=cw ms b:=⟨_,rfl⟩;have HV1:=Hi hx1;have HV2:=Hi hx2;rw [←hx1] at v1;rw [←hx2] at v2;clear hc hs ht za zb hx1 hx2;unfold au;go_enter Tryz.func148,Tryz.ntmps148;simp only [CV,SH.v]
 go_upto_region 1 with fail
 refine rX ?_;intro w1 hE B3 B4 B5 hz_w1 hr_w1;refine mV4 hE ?_ HX HC HS HT;clear HX HC HS HT;intro HX HC HS HT;have hs_w1:=hE.size;replace b_B3:=bX3 B3;replace b_B4:=bX3 B4;replace b_B5:=bX3 B5
 go_upto_region 2 with fail
 refine wpG 8 (fun opIx=>match opIx with
  | 2=>sU (.int .i64 (x1:Nat))
  | 5=>sU (.int .i64 (x2:Nat))
  | _=>.quiet) (fun _=>[]) fun w0 he0 hz0 hc0 hf0=>?_
 refine wps he0 (fun w1 hW hG=>?_) fun x20=>?_
 ·exact (by rw [HV1.out];exact gv #[CV ⟨va,vn,vc⟩] [CV ⟨va,vn,vc⟩,RH.v ⟨sn,sa,sl,sc,sb,sm,sd⟩] rfl rfl rfl Tryz.func71 kZ kZ (jZ ⟨va,vn,vc⟩ ms K ⟨sn,sa,sl,sc,sb,sm,sd⟩ a T _ (HC.out.ext hW) (HS.out.ext hW) ZA.out hT hT3))
 refine qZ ?_;refine wps he0 (fun w1 hW hG=>?_) fun x21=>?_
 ·exact (by rw [HV2.out];exact gv #[CV ⟨va,vn,vc⟩] [CV ⟨va,vn,vc⟩,RH.v ⟨tn,ta,tl,tc,tb,tm,td⟩] rfl rfl rfl Tryz.func71 kZ kZ (jZ ⟨va,vn,vc⟩ ms K ⟨tn,ta,tl,tc,tb,tm,td⟩ b T _ (HC.out.ext hW) (HT.out.ext hW) ZB.out hT hT3))
 refine qZ ?_;refine aq ?_;intro w2 hI;have hE:=he0.out.trans hI.ext;clear hI he0 hz0 hc0 hf0;refine mV7 hE ?_ B3 B4 B5 HX HS HC HT;clear B3 B4 B5 HX HS HC HT;intro B3 B4 B5 HX HS HC HT;have hs_w2:=hE.size;replace b_B3:=bX3 B3;replace b_B4:=bX3 B4;replace b_B5:=bX3 B5;simp only [pD]
 go_wp2_with fail
 refine cM (kw ⟨va,vn,vc⟩ ms K ⟨tn,ta,tl,tc,tb,tm,td⟩ b T _ HC.out h0 HT.out ZB.out hT hT3) fun x20 w20 hE _=>?_
 refine mV7 hE ?_ B3 B4 B5 HX HS HC HT;clear B3 B4 B5 HX HS HC HT;intro B3 B4 B5 HX HS HC HT;have hs_w20:=hE.size;replace b_B3:=bX3 B3;replace b_B4:=bX3 B4;replace b_B5:=bX3 B5;obtain ⟨r,hr⟩:∃ r,r=rtV ms b:=⟨_,rfl⟩;have HR:=Hi hr;rw [←hr];clear hr;cases r
 case false =>
  have HE:Hid (btM ms a b=(x1:Int)-(x2:Int)):=Hi (by unfold btM;rw [←HR.out,←HV1.out,←HV2.out,if_neg (by simp)];omega);go_wp2
  go_ret
  exact ⟨(),by rw [HE.out];rfl,HX.out,trivial⟩
 go_wp2_with fail
 refine cM (fh ⟨sn,sa,sl,sc,sb,sm,sd⟩ ⟨tn,ta,tl,tc,tb,tm,td⟩ a b _ (HS.out.raw ZA.out zo) (HT.out.raw ZB.out zo)) fun x24 w24 hE _=>?_
 refine mV7 hE ?_ B3 B4 B5 HX HS HC HT;clear B3 B4 B5 HX HS HC HT;intro B3 B4 B5 HX HS HC HT;have hs_w24:=hE.size;replace b_B3:=bX3 B3;replace b_B4:=bX3 B4;replace b_B5:=bX3 B5;by_cases hlt:a<b
 ·have hc:dJ a b<0:=kf.2 hlt;have HE:Hid (btM ms a b=(x1:Int)-(x2:Int)-1):=Hi (by unfold btM;rw [←HR.out,←HV1.out,←HV2.out,if_pos ⟨rfl,hlt⟩]);generalize dJ a b=c at *
  clear hlt;go_wp2
  go_ret
  exact ⟨(),by rw [HE.out];rfl,HX.out,trivial⟩
 ·have hc:¬ dJ a b<0:=fun h=>hlt (kf.1 h)
  have HE:Hid (btM ms a b=(x1:Int)-(x2:Int)):=Hi (by unfold btM;rw [←HR.out,←HV1.out,←HV2.out,if_neg (fun h=>hlt h.2)];omega);generalize dJ a b=c at *
  clear hlt;go_wp2
  go_ret
  exact ⟨(),by rw [HE.out];rfl,HX.out,trivial⟩
theorem rN(pa:Option Addr)(P pc:Nat)(p:List Rat)(K:Nat)(s t:RH)(a b:Rat)(T:Nat)(w:World)(h:cD w ⟨pa,P,pc⟩ p)(hP:P≤49)(h0:tz p≠[])(hk:FrK K p)(hK:K≤12000000)(hK2:(P+1)*(K / 3)≤25000000)(hsq:FrK K (sqfV p))
 (hs:aS w s a)(ht:aS w t b)(za:Sz T a)(zb:Sz T b)(hT:1≤T)(hT3:T≤1000) :
  au 22 [.slice pa P pc,IvV (s,t)] w (fun _:Unit=>.tuple #[.int .i64 (cntV p (loV a b) (hiV a b)),.int .i64 0]) (fun _ _=>True):=by
 obtain ⟨sn,sa,sl,sc,sb,sm,sd⟩:=s;obtain ⟨tn,ta,tl,tc,tb,tm,td⟩:=t;have HX:=Hi (Ext.refl w);have LP:=Hi (RIn.of h);have HS:=Hi hs;have HT:=Hi ht;have hlen:=h.len;simp only at hlen;have HKp:=Hi hk;have HKs:=Hi hsq;have H0:=Hi h0;have HSz:Hid (SzL K p):=Hi (by
  obtain ⟨S,D,h1,h2,h3,h4,h5⟩:=hk;exact (h4.sz h1 h2 h3).mono (by have:=KZ.small h5;omega))
 have HCK:Hid (oM p=0):=Hi (by unfold oM;rw [if_neg (by have:=ah p;omega),if_neg h0]);have ZA:Hid (Sz T (loV a b)):=Hi (by rcases n4 a b with e|e <;> rw [e] <;> assumption);have ZB:Hid (Sz T (hiV a b)):=Hi (by rcases oh a b with e|e <;> rw [e] <;> assumption);have hms:Hid (0<(remsV (rootV p)).length):=Hi (gA (jz h0).ne);obtain ⟨lo,hlo⟩:∃ lo,lo=loV a b:=⟨_,rfl⟩;obtain ⟨hi,hhi⟩:∃ hi,hi=hiV a b:=⟨_,rfl⟩;rw [←hlo] at ZA;rw [←hhi] at ZB;have v1:=gW (remsV (rootV p)) lo;have v2:=gW (remsV (rootV p)) hi;have hml:(remsV (rootV p)).length≤P+1:=by
  have e1:=i6 (rootV p);have e2:(rootV p).length≤p.length:=by unfold rootV;split;exact mz h0;exact nXe _
  omega
 obtain ⟨x1,hx1⟩:∃ x1,x1=cw (remsV (rootV p)) lo:=⟨_,rfl⟩;obtain ⟨x2,hx2⟩:∃ x2,x2=cw (remsV (rootV p)) hi:=⟨_,rfl⟩;have HV1:=Hi hx1;have HV2:=Hi hx2;rw [←hx1] at v1;rw [←hx2] at v2;have hx1b:x1≤100:=zo;have hx2b:x2≤100:=zo;have HCN:Hid (cntV p (loV a b) (hiV a b)=(x1:Int)-(x2:Int)+(if rtV (remsV (rootV p)) lo=true then 1 else 0)):=Hi (by rw [hx1,hx2,←hlo,←hhi];rfl);have HLO:=Hi hlo;have HHI:=Hi hhi;obtain ⟨ms,hmse⟩:∃ ms,ms=remsV (rootV p):=⟨_,rfl⟩;have HMS:=Hi hmse;rw [←hmse] at hms HV1 HV2 HCN;clear h hs ht hk hsq h0 za zb hlo hhi hx1 hx2 v1 v2 hml hmse hlen;unfold au;go_enter Tryz.func22,Tryz.ntmps22
 go_upto_region 1 with fail
 refine nmA ?_;intro w1 hE B3 hz_w1 hr_w1;refine mV4 hE ?_ HX LP HS HT;clear HX LP HS HT;intro HX LP HS HT;have hs_w1:=hE.size;replace b_B3:=bX3 B3
 go_wp2_with fail
 refine cM (iW pa P pc p _ LP.out.raw) fun x11 w11 hE _=>?_
 refine mV5 hE ?_ B3 HX LP HS HT;clear B3 HX LP HS HT;intro B3 HX LP HS HT;have hs_w11:=hE.size;replace b_B3:=bX3 B3;rw [HCK.out]
 go_wp2_with fail
 refine cM (gE ⟨sn,sa,sl,sc,sb,sm,sd⟩ ⟨tn,ta,tl,tc,tb,tm,td⟩ a b _ HS.out HT.out) fun x16 w16 hE G16=>?_
 refine mV5 hE ?_ B3 HX LP HS HT;clear B3 HX LP HS HT;intro B3 HX LP HS HT;have hs_w16:=hE.size;replace b_B3:=bX3 B3;obtain ⟨⟨ln,la,ll,lc,lb,lm,ld⟩,⟨hn,ha,hl,hc,hb,hm,hd⟩⟩:=x16;rw [←HLO.out,←HHI.out] at G16;have HL:=Hi G16.out.1;have HH:=Hi G16.out.2;clear G16;clear HS;clear HT
 go_upto_region 5 with fail
 refine df B3.out rfl ?_;intro w17 T;replace HX:=Hi (T.ext HX.out zo);replace LP:=Hi (LP.out.put T zo);replace B3:=Hi (T.bx);replace HL:=Hi (HL.out.keep T.keep);replace HH:=Hi (HH.out.keep T.keep);have hs_w17:=nle T.size;have hr_w17:=nle T.size.symm;clear T;replace b_B3:=bX3 B3
 go_wp2_with fail
 refine cM (mD pa P pc p K _ LP.out.raw zo H0.out HKp.out hK hK2 HKs.out) fun x18 w18 hE G18=>?_
 refine mV5 hE ?_ HX LP B3 HL HH;clear HX LP B3 HL HH;intro HX LP B3 HL HH;have hs_w18:=hE.size;replace b_B3:=bX3 B3;rw [←HMS.out] at G18;obtain ⟨va,vn,vc⟩:=x18;simp only [CV,SH.v]
 go_upto_region 6 with fail
 refine nmA ?_;intro w19 hE B7 hz_w19 hr_w19;refine mV6 hE ?_ G18 HX LP B3 HL HH;clear G18 HX LP B3 HL HH;intro G18 HX LP B3 HL HH;have hs_w19:=hE.size;replace b_B3:=bX3 B3;replace b_B7:=bX3 B7
 go_upto_region 7 with fail
 refine wpG 10 (fun opIx=>match opIx with
  | 3=>sU (.int .i64 (x1:Nat))
  | 7=>sU (.int .i64 (x2:Nat))
  | _=>.quiet) (fun _=>[]) fun w0 he0 hz0 hc0 hf0=>?_
 refine wps he0 (fun w1 hW hG=>?_) fun x30=>?_
 ·exact (by rw [HV1.out];exact gv #[CV ⟨va,vn,vc⟩] [CV ⟨va,vn,vc⟩,RH.v ⟨ln,la,ll,lc,lb,lm,ld⟩] rfl rfl rfl Tryz.func71 kZ kZ (jZ ⟨va,vn,vc⟩ ms K ⟨ln,la,ll,lc,lb,lm,ld⟩ lo T _ (G18.out.ext hW) (HL.out.ext hW) ZA.out hT hT3))
 refine qZ ?_;refine wps he0 (fun w1 hW hG=>?_) fun x31=>?_
 ·exact (by rw [HV2.out];exact gv #[CV ⟨va,vn,vc⟩] [CV ⟨va,vn,vc⟩,RH.v ⟨hn,ha,hl,hc,hb,hm,hd⟩] rfl rfl rfl Tryz.func71 kZ kZ (jZ ⟨va,vn,vc⟩ ms K ⟨hn,ha,hl,hc,hb,hm,hd⟩ hi T _ (G18.out.ext hW) (HH.out.ext hW) ZB.out hT hT3))
 refine qZ ?_;refine aq ?_;intro w20 hI;have hE:=he0.out.trans hI.ext;clear hI he0 hz0 hc0 hf0;refine mV7 hE ?_ B7 HX LP B3 HL G18 HH;clear B7 HX LP B3 HL G18 HH;intro B7 HX LP B3 HL G18 HH;have hs_w20:=hE.size;replace b_B3:=bX3 B3;replace b_B7:=bX3 B7;simp only [pD]
 go_wp2_with fail
 refine cM (kw ⟨va,vn,vc⟩ ms K ⟨ln,la,ll,lc,lb,lm,ld⟩ lo T _ G18.out hms.out HL.out ZA.out hT hT3) fun x33 w33 hE _=>?_
 refine mV7 hE ?_ B7 HX LP B3 HL G18 HH;clear B7 HX LP B3 HL G18 HH;intro B7 HX LP B3 HL G18 HH;have hs_w33:=hE.size;replace b_B3:=bX3 B3;replace b_B7:=bX3 B7;obtain ⟨r,hr⟩:∃ r,r=rtV ms lo:=⟨_,rfl⟩;rw [←hr] at HCN ⊢;clear hr;cases r
 ·go_wp2;exact nXa (v:=.tuple #[.int .i64 (cntV p (loV a b) (hiV a b)),.int .i64 0]) (by rw [HCN.out];simp [results,Tryz.results22,go_sem]) rfl ⟨(),rfl,HX.out,trivial⟩
 ·go_wp2;exact nXa (v:=.tuple #[.int .i64 (cntV p (loV a b) (hiV a b)),.int .i64 0]) (by rw [HCN.out];simp [results,Tryz.results22,go_sem]) rfl ⟨(),rfl,HX.out,trivial⟩
theorem lP(pa:Option Addr)(P pc:Nat)(p:List Rat)(K:Nat)(s t:RH)(a b:Rat)(T:Nat)(w:World)(h:bw w ⟨pa,P,pc⟩ p)(hP:P≤49)(h0:tz p≠[])(hk:FrK K p)(hK:K≤12000000)(hK2:(P+1)*(K / 3)≤25000000)(hsq:FrK K (sqfV p))
 (hs:aS w s a)(ht:aS w t b)(za:Sz T a)(zb:Sz T b)(hT:1≤T)(hT3:T≤1000) :
  au 22 [.slice pa P pc,IvV (s,t)] w (fun _:Unit=>.tuple #[.int .i64 (cntV p (loV a b) (hiV a b)),.int .i64 0]) (fun _ _=>True):=by
 obtain ⟨S,D,h1,h2,h3,h4,h5⟩:=id hk;exact rN pa P pc p K s t a b T w (h.raw (h4.sz h1 h2 h3) (by have:=KZ.small h5;omega)) hP h0 hk hK hK2 hsq hs ht za zb hT hT3
theorem Ck{S:Nat}{x:Rat}(h:Fr S 1 x):Wz S x:=by
 unfold Fr at h;rw [show x*((1:Nat):Rat)=x from Rat.mul_one x] at h;exact h
theorem Cx{S:Nat}{p:List Rat}(h:∀ x ∈ p,Wz S x)(hl:p.length≤100000):∀ x ∈ tz (derL p),Wz (S+1) x:=fun x hx=>Ck (fu (D:=1) (fun y hy=>Fr.one (h y hy)) hl x hx)
theorem zI(n:Nat)(x:Rat):eP n [] x=0:=by cases n <;> simp [eP]
theorem tp:∀ (n:Nat) (p:List Rat) (x:Rat),IsS (eP n p x):=by
 intro n;induction n with
 | zero=>intro p x;exact Or.inr (Or.inl rfl)
 | succ n ih =>
  intro p x;unfold eP;split
  ·exact Or.inr (Or.inl rfl)
  ·split
   ·exact nH _
   ·exact ih _ _
theorem p9(pa:Option Addr)(P pc:Nat)(p:List Rat)(t:RH)(x:Rat)(S T:Nat)(w:World)(h:bw w ⟨pa,P,pc⟩ p)(hP:P≤900)(htz:tz p=p)(hW:∀ y ∈ p,Wz S y)(hS:1≤S)(hS2:S≤16770000)(ht:aB w t x)(hx:Sz T x)(hT:1≤T)(hT4:T≤500000)(hT3:T*P≤1000000) :
  au 76 [.slice pa P pc,t.v] w (fun _:Unit=>.int .i64 (eP (P+1) p x)) (fun _ _=>True):=by
 obtain ⟨tn,ta,tl,tc,tb,tm,td⟩:=t;have HX:=Hi (Ext.refl w);have LP:=Hi h.lin;have HT:=Hi ht;have ZX:=Hi hx;have HW:=Hi hW;have HTZ:=Hi htz;have HLn:=Hi h.len;simp only at HLn;clear h ht hx hW htz;unfold au;go_enter Tryz.func76,Tryz.ntmps76
 go_upto_region 1 with fail
 refine nmA ?_;intro w1 hE B3 hz_w1 hr_w1;refine mV3 hE ?_ HX LP HT;clear HX LP HT;intro HX LP HT;have hs_w1:=hE.size;replace b_B3:=bX3 B3;obtain ⟨b3,hb3⟩:∃ b,b=w.heap.size:=⟨_,rfl⟩;have hw3:w.heap.size≤b3:=zo;rw [←hb3] at B3 ⊢;clear hb3 b_B3;go_wp2
 go_loopg [0] P (fun g v wr=>∃ (qa:Option Addr) (qn qc i:Nat) (q:List Rat),v=.slice qa qn qc∧Ext w wr∧bw wr ⟨qa,qn,qc⟩ q∧aB wr ⟨tn,ta,tl,tc,tb,tm,td⟩ x∧wr.heap[b3]?=some (.cells #[.bool tn,.slice ta tl tc,.slice tb tm td] 34 (0,0))∧tz q=q∧i+g=P∧qn≤g∧(∀ y ∈ q,Wz (S+i) y)∧eP (g+1) q x=eP (P+1) p x)
 case atStart=>exact ⟨pa,P,pc,0,p,rfl,HX.out,LP.out.can,HT.out,B3.out,HTZ.out,zo,nXe _,HW.out,rfl⟩
 case round =>
  obtain ⟨qa,qn,qc,i,q,rfl,g1,g2,g3,g4,g5,g6,g7,g8,g9⟩:=hrel;clear HX LP HT B3;have HX:=Hi g1;have LQ:=Hi g2.lin;have HT:=Hi g3;have B3:=Hi g4;have HQZ:=Hi g5;have HQW:=Hi g8;have HV:=Hi g9;have HQl:=Hi g2.len;simp only at HQl;clear g1 g2 g3 g4 g5 g8 g9;replace b_B3:=bX3 B3;by_cases h0:qn=0
  case pos =>
   subst h0;have HE:Hid (eP (P+1) p x=0):=Hi (by rw [←HV.out,nXj.1 HQl.out,zI]);go_wp2
   go_ret
   exact ⟨(),by rw [HE.out];rfl,HX.out,trivial⟩
  obtain ⟨m,rfl⟩:∃ m,qn=m+1:=⟨qn-1,zo⟩;have hpos:(0:Int)<(m:Int)+1:=zo;have Hne:Hid (q≠[]):=Hi (fun h=>by have:=HQl.out;rw [h] at this;simp at this)
  go_wp2_with fail
  refine cM (fQ qa (m+1) qc q ⟨tn,ta,tl,tc,tb,tm,td⟩ x (S+i) T _ LQ.out.can HT.out zo HQW.out ZX.out hT zo zo hT4 (nXf (nXg T zo) hT3)) fun x11 w11 hE _=>?_
  refine mV4 hE ?_ HX LQ HT B3;clear HX LQ HT B3;intro HX LQ HT B3;have hs_w11:=hE.size;replace b_B3:=bX3 B3;obtain ⟨s,hs⟩:∃ s,s=Sg.sg (evV q x):=⟨_,rfl⟩;have HS:=Hi hs;rw [←hs];clear hs;obtain ⟨g0,rfl⟩:∃ g0,gk=g0+1:=⟨gk-1,zo⟩;have HST:Hid (eP (g0+1+1) q x=if s≠0 then s else eP (g0+1) (tz (derL q)) x):=Hi (by
   rw [show eP (g0+1+1) q x=if q=[] then 0 else if Sg.sg (evV q x)≠0 then Sg.sg (evV q x) else eP (g0+1) (tz (derL q)) x from rfl,if_neg Hne.out,←HS.out])
  by_cases hs0:s=0
  case neg =>
   have hsb:(s == 0)=false:=by rw [nXs];exact hs0
   have hsb2:(s != 0)=true:=by rw [bne,hsb];rfl
   have HE:Hid (eP (P+1) p x=s):=Hi (by rw [←HV.out,HST.out,if_pos hs0]);go_wp2
   go_ret
   exact ⟨(),by rw [HE.out];rfl,HX.out,trivial⟩
  have HE:Hid (eP (g0+1) (tz (derL q)) x=eP (P+1) p x):=Hi (by rw [←HV.out,HST.out,if_neg (fun h=>h hs0)]);subst hs0;have HQ2:Hid ((tz (derL q)).length+1≤m+1):=Hi (by have:=ft (p:=q) (by rw [HQZ.out];exact Hne.out);have:=HQl.out;omega);have HSZ:Hid (SzL 16777216 q):=Hi (fun y hy=>((HQW.out y hy).sz zo).mono zo)
  go_wp2_with fail
  refine cM (ja qa (m+1) qc q _ (LQ.out.can.raw HSZ.out zo) zo HSZ.out) fun x16 w16 hE G16=>?_
  refine mV4 hE ?_ HX LQ HT B3;clear HX LQ HT B3;intro HX LQ HT B3;have hs_w16:=hE.size;replace b_B3:=bX3 B3;obtain ⟨da,dn,dc⟩:=x16;have HD:Hid (bw w16 ⟨da,dn,dc⟩ (tz (derL q))):=Hi G16.out.can;have hdn:=HD.out.len;simp only at hdn;have hd2:=HQ2.out;simp only [SH.v];go_wp2
  go_roundg g0
  case measure=>omega
  case rel=>exact ⟨da,dn,dc,i+1,_,rfl,HX.out,HD.out,HT.out,B3.out,aM _,zo,zo,fun y hy=>(Cx HQW.out (by have:=HQl.out;omega) y hy).mono zo,HE.out⟩
theorem vW(pa:Option Addr)(P pc:Nat)(p:List Rat)(t:RH)(x:Rat)(S T:Nat)(w:World)(h:bw w ⟨pa,P,pc⟩ p)(hP:P≤900)(htz:tz p=p)(hW:∀ y ∈ p,Wz S y)(hS:1≤S)(hS2:S≤16770000)(ht:aB w t x)(hx:Sz T x)(hT:1≤T)(hT3:T≤1000) :
  au 76 [.slice pa P pc,t.v] w (fun _:Unit=>.int .i64 (eP (P+1) p x)) (fun _ _=>True) :=
 p9 pa P pc p t x S T w h hP htz hW hS hS2 ht hx hT zo (nXx hT3 (by omega:P≤1000))
def OkC(K:Nat):Nat→List Rat→Prop
 | 0,_=>True
 | n+1,p=>FrK K p∧FrK K (sqfV p)∧OkC K n (bN p (derL p))
theorem Cj{p:List Rat}(h:2≤(tz p).length):(bN p (derL p)).length<p.length:=by
 obtain ⟨n,hn⟩:∃ n,(tz p).length=n+2:=⟨(tz p).length-2,zo⟩;have h1:=ve hn;have h2:=gg (gG p (derL p)).2.1 h1;have h3:=eK p (n+1) hn;rw [uD] at h2;have:=ah p;omega
theorem AY{p:List Rat}{a b:Rat}(h0:tz p≠[])(h:zi p a b≠0):2≤(tz p).length:=by
 apply Classical.byContradiction;intro hn;have hl:(tz p).length=1:=by have:=nYg.2 h0;omega
 apply h;have h1:=eK p 0 hl;have h2:ar (derL p)=[]:=bH.2 (nXj.1 zo);have h3:remsV p=[ar p]:=by
  unfold remsV;rw [h2,cX (fun h=>h0 (bH.1 h))]
 have h4:rootV p=p:=by
  unfold rootV;rw [h3];show (if 2≤(ar p).length then sqfV p else p)=p;rw [if_neg (by rw [aC];omega)]
 have h5:∀ x,cw [ar p] x=0:=fun x=>by
  unfold cw;simp [vr]
 have h6:rtV (remsV (rootV p)) b=false:=by
  cases e:rtV (remsV (rootV p)) b with
  | false=>rfl
  | true =>
   have h7:=(zJ h0 b).1 e;obtain ⟨y,hy⟩:=mS h0;rw [fo zo] at h7 hy;exact absurd h7 hy
 unfold zi;rw [h6,h4,h3,h5,h5,if_neg (by simp)];rfl
theorem wx(pa:Option Addr)(P pc:Nat)(p:List Rat)(K:Nat)(s t:RH)(a b:Rat)(T:Nat)(w:World)(h:bw w ⟨pa,P,pc⟩ p)(hP:P≤49)(h0:tz p≠[])(hok:OkC K (2*(P+1)) p)(hK:K≤12000000)(hK2:(P+1)*(K / 3)≤25000000)
 (hs:aB w s a)(ht:aB w t b)(za:Sz T a)(zb:Sz T b)(hT:1≤T)(hT3:T≤1000) :
  au 81 [.slice pa P pc,IvV (s,t)] w (fun _:Unit=>.bool (st (P+1) p a b)) (fun _ _=>True):=by
 obtain ⟨sn,sa,sl,sc,sb,sm,sd⟩:=s;obtain ⟨tn,ta,tl,tc,tb,tm,td⟩:=t;have HX:=Hi (Ext.refl w);have LP:=Hi h.lin;have HS:=Hi hs;have HT:=Hi ht;have ZA:=Hi za;have ZB:=Hi zb;have H0:=Hi h0;have HOK:=Hi hok;have HLn:=Hi h.len;simp only at HLn;clear h hs ht za zb h0 hok;unfold au;go_enter Tryz.func81,Tryz.ntmps81
 go_upto_region 1 with fail
 refine nmA ?_;intro w1 hE B3 hz_w1 hr_w1;refine mV4 hE ?_ HX LP HS HT;clear HX LP HS HT;intro HX LP HS HT;have hs_w1:=hE.size;replace b_B3:=bX3 B3;obtain ⟨b3,hb3⟩:∃ b,b=w.heap.size:=⟨_,rfl⟩;have hw3:w.heap.size≤b3:=zo;rw [←hb3] at B3 ⊢;clear hb3 b_B3;go_wp2
 go_loopg [0] (P+1) (fun g v wr=>∃ (qa:Option Addr) (qn qc:Nat) (q:List Rat),v=.slice qa qn qc∧Ext w wr∧bw wr ⟨qa,qn,qc⟩ q∧aB wr ⟨sn,sa,sl,sc,sb,sm,sd⟩ a∧aB wr ⟨tn,ta,tl,tc,tb,tm,td⟩ b∧wr.heap[b3]?=some (.cells #[.bool sn,.slice sa sl sc,.slice sb sm sd,.bool tn,.slice ta tl tc,.slice tb tm td] 38 (0,0))∧tz q≠[]∧qn+1≤g∧qn≤P∧OkC K (2*g) q∧st g q a b=st (P+1) p a b)
 case atStart=>exact ⟨pa,P,pc,p,rfl,HX.out,LP.out.can,HS.out,HT.out,B3.out,H0.out,nXe _,nXe _,HOK.out,rfl⟩
 case round =>
  obtain ⟨qa,qn,qc,q,rfl,g1,g2,g3,g4,g5,g6,g7,g8,g9,g10⟩:=hrel;clear HX LP HS HT B3;have HX:=Hi g1;have LQ:=Hi g2.lin;have HS:=Hi g3;have HT:=Hi g4;have B3:=Hi g5;have HQ0:=Hi g6;have HQl:=Hi g2.len;simp only at HQl;obtain ⟨g0,rfl⟩:∃ g0,gk=g0+1:=⟨gk-1,zo⟩;rw [show 2*(g0+1)=2*g0+1+1 by omega] at g9;obtain ⟨k1,k2,k3,k4,k5⟩:=g9;have HK1:=Hi k1;have HK2:=Hi k2;have HK3:Hid (FrK K (bN q (derL q))):=Hi k3;have HK4:Hid (FrK K (sqfV (bN q (derL q)))):=Hi k4;have HK5:=Hi k5;have HV:=Hi g10;clear g1 g2 g3 g4 g5 g6 g10 k1 k2 k3 k4 k5;have hmul:(qn+1)*(K / 3)≤(P+1)*(K / 3):=nXh _ zo;have HMS:Hid (0<(remsV (rootV q)).length):=Hi (gA (jz HQ0.out).ne);replace b_B3:=bX3 B3;obtain ⟨o,ho⟩:∃ o,o=zi q a b:=⟨_,rfl⟩;have HO:=Hi ho;clear ho
  go_upto_region 1 with fail
  refine wpG 8 (fun opIx=>match opIx with
   | 1=>.spec (SH) (default) (CV) (fun x w'=>ChK w' x (remsV (rootV q)) K)
   | 6=>sU (.int .i64 o)
   | _=>.quiet) (fun|6=>[1]|_=>[]) fun w0 he0 hz0 hc0 hf0=>?_
  refine wps he0 (fun w1 hW hG=>?_) fun x20=>?_
  ·exact spc [.slice qa qn qc] Tryz.func70 (qe qa qn qc q K _ (LQ.out.can.ext hW) zo HQ0.out HK1.out hK zo HK2.out)
  refine qZ ?_;refine wps he0 (fun w1 hW hG=>?_) fun x21=>?_
  ·have g20:=gS (hG 1 dZ);exact spc [CV x20,RH.v ⟨sn,sa,sl,sc,sb,sm,sd⟩,RH.v ⟨tn,ta,tl,tc,tb,tm,td⟩] Tryz.func148 ((by rw [HO.out];exact qh x20 (remsV (rootV q)) K ⟨sn,sa,sl,sc,sb,sm,sd⟩ ⟨tn,ta,tl,tc,tb,tm,td⟩ a b T _ g20 HMS.out (HS.out.ext hW) (HT.out.ext hW) ZA.out ZB.out hT hT3))
  refine qZ ?_;refine aq ?_;intro w2 hI;have hE:=he0.out.trans hI.ext;have G20:=gT (hI.facts 1);clear hI he0 hz0 hc0 hf0;refine mV5 hE ?_ HX B3 LQ HS HT;clear HX B3 LQ HS HT;intro HX B3 LQ HS HT;have hs_w2:=hE.size;replace b_B3:=bX3 B3;simp only [pD];clear G20;have HST:Hid (st (g0+1) q a b=if o=0 then false else if zi (bN q (derL q)) a b≠o then true else st g0 (bN (bN q (derL q)) (derL (bN q (derL q)))) a b):=Hi (by rw [HO.out];rfl);by_cases ho0:o=0
  case pos =>
   subst ho0;have HE:Hid (st (P+1) p a b=false):=Hi (by rw [←HV.out,HST.out,if_pos rfl]);go_wp2
   go_ret
   exact ⟨(),by rw [HE.out];rfl,HX.out,trivial⟩
  have hob:(o == 0)=false:=by rw [nXs];exact ho0
  have HQ2:Hid (2≤(tz q).length):=Hi (AY HQ0.out (by rw [←HO.out];exact ho0));have HG0:Hid (tz (bN q (derL q))≠[]):=Hi (mf HQ0.out);have HGl:Hid ((bN q (derL q)).length<qn):=Hi (by have:=Cj HQ2.out;have:=HQl.out;omega);obtain ⟨S17,D17,hS17,hD17,hDW17,hF17,hSK17⟩:=HK1.out;have HF17:Hid (FrL S17 D17 q):=Hi hF17;have hs17:=KZ.small hSK17;have HSK17:Hid (GZ K (S17+1) q (tz (derL q))):=Hi (uo hD17 hF17 (by have:=LQ.out.len;simp only at this;omega) HQ0.out hSK17);have HSz17:Hid (SzL S17 q):=Hi (hF17.sz hS17 hD17 hDW17);have hDV17:D17<W32 ^ (S17+1):=nXn hDW17 (nXp ay zo);have HDF17:Hid (∀ x ∈ tz (derL q),Fr (S17+1) D17 x):=Hi (fu hF17 (by have:=LQ.out.len;simp only at this;omega));have HDl17:Hid ((tz (derL q)).length+1≤qn):=Hi (by have:=ft HQ0.out;have:=LQ.out.len;simp only at this;omega);clear hF17 hSK17
  go_wp2_with fail
  refine cM (ja qa qn qc q _ (LQ.out.can.raw HSz17.out zo) zo (HSz17.out.mono zo)) fun x17 w17 hE G17=>?_
  refine mV5 hE ?_ HX B3 LQ HS HT;clear HX B3 LQ HS HT;intro HX B3 LQ HS HT;have hs_w17:=hE.size;replace b_B3:=bX3 B3;obtain ⟨da17,dn17,dc17⟩:=x17;have HD17:Hid (LIn w17 ⟨da17,dn17,dc17⟩ (tz (derL q)) 0 w17.heap.size):=Hi G17.out.can.lin;clear G17;have hdn17:dn17+1≤qn:=by have h1:=HD17.out.len;have h2:=HDl17.out;simp only at h1;omega
  simp only [SH.v]
  go_wp2_with fail
  refine cM (qx qa da17 qn qc dn17 dc17 q (tz (derL q)) (S17+1) D17 D17 _ LQ.out.can HD17.out.can zo zo zo hD17 hDV17 hD17 hDV17 (HF17.out.mono zo) HDF17.out K HSK17.out zo) fun x18 w18 hE G18=>?_
  refine mV6 hE ?_ HX B3 LQ HS HT HD17;clear HX B3 LQ HS HT HD17;intro HX B3 LQ HS HT HD17;have hs_w18:=hE.size;replace b_B3:=bX3 B3;rw [gH] at G18;obtain ⟨ga18,gn18,gc18⟩:=x18;have LG:=Hi G18.out.1.lin;clear G18 HF17 HDF17 HSz17 HSK17;clear HD17;simp only [SH.v];have hgn:gn18<qn:=by have h1:=LG.out.len;have h2:=HGl.out;simp only at h1;omega
  have hmul2:(gn18+1)*(K / 3)≤(P+1)*(K / 3):=nXh _ zo;have HMS2:Hid (0<(remsV (rootV (bN q (derL q)))).length):=Hi (gA (jz HG0.out).ne);obtain ⟨r,hr⟩:∃ r,r=bN q (derL q):=⟨_,rfl⟩;rw [←hr] at LG HG0 HMS2 HK3 HK4 HK5 HST;clear hr HGl HMS;obtain ⟨o2,ho2⟩:∃ o,o=zi r a b:=⟨_,rfl⟩;have HO2:=Hi ho2;rw [←ho2] at HST;clear ho2;clear LQ
  go_upto_region 5 with fail
  refine wpG 9 (fun opIx=>match opIx with
   | 1=>.spec (SH) (default) (CV) (fun x w'=>ChK w' x (remsV (rootV r)) K)
   | 6=>sU (.int .i64 o2)
   | _=>.quiet) (fun|6=>[1]|_=>[]) fun w0 he0 hz0 hc0 hf0=>?_
  refine wps he0 (fun w1 hW hG=>?_) fun x30=>?_
  ·exact spc [.slice ga18 gn18 gc18] Tryz.func70 (qe ga18 gn18 gc18 r K _ (LG.out.can.ext hW) zo HG0.out HK3.out hK zo HK4.out)
  refine qZ ?_;refine wps he0 (fun w1 hW hG=>?_) fun x31=>?_
  ·have g30:=gS (hG 1 dZ);exact spc [CV x30,RH.v ⟨sn,sa,sl,sc,sb,sm,sd⟩,RH.v ⟨tn,ta,tl,tc,tb,tm,td⟩] Tryz.func148 ((by rw [HO2.out];exact qh x30 (remsV (rootV r)) K ⟨sn,sa,sl,sc,sb,sm,sd⟩ ⟨tn,ta,tl,tc,tb,tm,td⟩ a b T _ g30 HMS2.out (HS.out.ext hW) (HT.out.ext hW) ZA.out ZB.out hT hT3))
  refine qZ ?_;refine aq ?_;intro w3 hI;have hE:=he0.out.trans hI.ext;have G30:=gT (hI.facts 1);clear hI he0 hz0 hc0 hf0;refine mV5 hE ?_ HX B3 LG HS HT;clear HX B3 LG HS HT;intro HX B3 LG HS HT;have hs_w3:=hE.size;replace b_B3:=bX3 B3;simp only [pD];clear G30;by_cases ho3:o2=o
  case neg =>
   have hb1:(o2 == o)=false:=by rw [nXs];exact ho3
   have hb2:(o2 != o)=true:=by rw [bne,hb1];rfl
   have HE:Hid (st (P+1) p a b=true):=Hi (by rw [←HV.out,HST.out,if_neg ho0,if_pos ho3]);go_wp2
   go_ret
   exact ⟨(),by rw [HE.out];rfl,HX.out,trivial⟩
  have HE:Hid (st g0 (bN r (derL r)) a b=st (P+1) p a b):=Hi (by rw [←HV.out,HST.out,if_neg ho0,if_neg (fun h=>h ho3)]);subst ho3;have HR0:Hid (tz (bN r (derL r))≠[]):=Hi (mf HG0.out);have HRl:Hid ((bN r (derL r)).length≤gn18):=Hi (by have h1:=pu HG0.out;have h2:=LG.out.len;simp only at h2;omega);obtain ⟨S30,D30,hS30,hD30,hDW30,hF30,hSK30⟩:=HK3.out;have HF30:Hid (FrL S30 D30 r):=Hi hF30;have hs30:=KZ.small hSK30;have HSK30:Hid (GZ K (S30+1) r (tz (derL r))):=Hi (uo hD30 hF30 (by have:=LG.out.len;simp only at this;omega) HG0.out hSK30);have HSz30:Hid (SzL S30 r):=Hi (hF30.sz hS30 hD30 hDW30);have hDV30:D30<W32 ^ (S30+1):=nXn hDW30 (nXp ay zo);have HDF30:Hid (∀ x ∈ tz (derL r),Fr (S30+1) D30 x):=Hi (fu hF30 (by have:=LG.out.len;simp only at this;omega));have HDl30:Hid ((tz (derL r)).length+1≤gn18):=Hi (by have:=ft HG0.out;have:=LG.out.len;simp only at this;omega);clear hF30 hSK30
  go_wp2_with fail
  refine cM (ja ga18 gn18 gc18 r _ (LG.out.can.raw HSz30.out zo) zo (HSz30.out.mono zo)) fun x30 w30 hE G30=>?_
  refine mV5 hE ?_ HX B3 LG HS HT;clear HX B3 LG HS HT;intro HX B3 LG HS HT;have hs_w30:=hE.size;replace b_B3:=bX3 B3;obtain ⟨da30,dn30,dc30⟩:=x30;have HD30:Hid (LIn w30 ⟨da30,dn30,dc30⟩ (tz (derL r)) 0 w30.heap.size):=Hi G30.out.can.lin;clear G30;have hdn30:dn30+1≤gn18:=by have h1:=HD30.out.len;have h2:=HDl30.out;simp only at h1;omega
  simp only [SH.v]
  go_wp2_with fail
  refine cM (qx ga18 da30 gn18 gc18 dn30 dc30 r (tz (derL r)) (S30+1) D30 D30 _ LG.out.can HD30.out.can zo zo zo hD30 hDV30 hD30 hDV30 (HF30.out.mono zo) HDF30.out K HSK30.out zo) fun x31 w31 hE G31=>?_
  refine mV6 hE ?_ HX B3 LG HS HT HD30;clear HX B3 LG HS HT HD30;intro HX B3 LG HS HT HD30;have hs_w31:=hE.size;replace b_B3:=bX3 B3;rw [gH] at G31;obtain ⟨ga31,gn31,gc31⟩:=x31;have LR:=Hi G31.out.1.lin;clear G31 HF30 HDF30 HSz30 HSK30;clear HD30;simp only [SH.v];have hrn:gn31≤gn18:=by have h1:=LR.out.len;have h2:=HRl.out;simp only at h1;omega
  go_wp2
  go_roundg g0
  case measure=>omega
  case rel=>exact ⟨ga31,gn31,gc31,_,rfl,HX.out,LR.out.can,HS.out,HT.out,B3.out,HR0.out,zo,zo,HK5.out,HE.out⟩
end Go.Proofs.YtafgmcimcbhhjaaGreat
/- What Nonnegative and Positive say of the values. Plain facts. -/
namespace Go.Proofs.YtafgmcimcbhhjaaGreat.Sg
open Go.RowKit Go.Front Go.Num Go.Stab Go.Proofs.YtafgmcimcbhhjaaGreat
theorem De{c x:Rat}(h:0<c):sg (c*x)=sg x:=by rw [fE,fD h];omega
theorem Bu{p:List Rat}(h:tz p≠[])(x:Rat):sg (evV (ar p) x)=sg (evV p x):=by rw [cj p x,De (aZ h)]
theorem sT{I:Rat→Prop}{r:List Rat}(h:tz r≠[])(hs:jm I (evV (ar r))):jm I (evV r):=hs.smul (c:=aK r) (fun h0=>by have:=aZ h;rw [h0] at this;exact absurd this Rat.lt_irrefl) (cj r)
theorem mO{a:Rat}:∀ (k:Nat) (p:List Rat) (g:Rat→Rat),Pf g→tz p≠[]→(∀ x,evV p x=(x-a) ^ k*g x)→k<(tz p).length:=by
 intro k;induction k with
 | zero=>intro p g _ h _;exact nYg.2 h
 | succ k ih =>
  intro p g hg h he;obtain ⟨q,hq⟩:=((Pf.lin a).pow k).mul hg;have hq2:∀ x,evV q x=(x-a) ^ k*g x:=fun x=>by rw [←hq]
  have h1:∀ x,evV p x=(x-a)*evV q x:=fun x=>by rw [he x,hq2 x,Rat.pow_succ];grind
  have hq0:tz q≠[]:=fun h2=>by
   obtain ⟨y,hy⟩:=mS h;exact hy (by rw [h1,ax.1 h2 y];grind)
  have:=ih q g hg hq0 hq2;have:=po h1 hq0;omega
theorem yS(l:List Rat)(x:Rat):evV (tz l) x=evV l x:=(eC (c:=1) (fun i=>by rw [aT,Rat.one_mul]) x).trans (Rat.one_mul _)
theorem kC{a:Rat}:∀ (k n:Nat) (q:List Rat) (g:Rat→Rat),k<n→Pf g→g a≠0→(∀ x,evV q x=(x-a) ^ k*g x)→eP n q a=sg (g a):=by
 intro k;induction k with
 | zero =>
  intro n q g hk hg hga he;obtain ⟨m,rfl⟩:∃ m,n=m+1:=⟨n-1,zo⟩;have h1:evV q a=g a:=by rw [he a,Rat.pow_zero];grind
  have hq:q≠[]:=fun h=>hga (by rw [←h1,h];rfl)
  show (if q=[] then 0 else if sg (evV q a)≠0 then sg (evV q a) else eP m (tz (derL q)) a)=_;rw [if_neg hq,h1,if_pos (o3 hga)]
 | succ k ih =>
  intro n q g hk hg hga he;obtain ⟨m,rfl⟩:∃ m,n=m+1:=⟨n-1,zo⟩;have h1:evV q a=0:=by rw [he a,Rat.pow_succ];grind
  have hq:q≠[]:=fun h=>by
   have h2:∀ x,(x-a) ^ (k+1)*g x=0:=fun x=>by rw [←he x,h];rfl
   have h3:=qz ((Pf.lin a).pow (k+1)) hg h2 ⟨a+1,by
    show (a+1-a) ^ (k+1)≠0;have e:a+1-a=1:=by grind
    rw [e];have:∀ k:Nat,(1:Rat) ^ k=1:=fun k=>by
     induction k with
     | zero=>exact Rat.pow_zero _
     | succ k ih=>rw [Rat.pow_succ,ih,Rat.mul_one]
    rw [this];decide⟩
   exact hga (h3 a)
  show (if q=[] then 0 else if sg (evV q a)≠0 then sg (evV q a) else eP m (tz (derL q)) a)=_;rw [if_neg hq,h1,if_neg (fun h=>h il)];obtain ⟨g',hg',hd⟩:=qy hg;have h4:=(IsD.mul (IsD.pow a k) hd ((Pf.lin a).pow (k+1)) hg (((Pf.lin a).pow k).smul _)).uniq (by
   have e:=IsD.ev q;rw [show evV q=fun x=>(x-a) ^ (k+1)*g x from funext he] at e;exact e)
  have hpos:(0:Rat)<((k+1:Nat):Rat):=Rat.natCast_pos.2 (Nat.succ_pos k);have h5:=ih m (tz (derL q)) (fun x=>((k+1:Nat):Rat)*g x+(x-a)*g' x) zo ((hg.smul _).add ((Pf.lin a).mul hg')) (fun h=>by
   have h6:((k+1:Nat):Rat)*g a+(a-a)*g' a=0:=h;have h7:((k+1:Nat):Rat)*g a=0:=by grind
   rcases nXr.1 h7 with h8|h8
   ·rw [h8] at hpos;exact absurd hpos Rat.lt_irrefl
   ·exact hga h8) (fun x=>by
   rw [yS,cI,←h4 x,Rat.pow_succ];grind)
  rw [h5];show sg (((k+1:Nat):Rat)*g a+(a-a)*g' a)=sg (g a);rw [show ((k+1:Nat):Rat)*g a+(a-a)*g' a=((k+1:Nat):Rat)*g a by grind,De hpos]
theorem DI{g:Rat→Rat}(hg:Pf g){a:Rat}(h:0<g a):∃ e,0<e∧∀ s,a≤s→s<a+e→0<g s:=by
 obtain ⟨K,hK,k1⟩:=hg.lip a (a+1);obtain ⟨e,he,k2⟩:=fP hK h;obtain ⟨c,hc,c1,c2⟩:=ib he (show (0:Rat)<1 by decide);refine ⟨c,hc,fun s h1 h2=>?_⟩;have h3:=(Big.sign (r:=g a) k1 (Or.inl Rat.le_refl) Rat.le_refl h1 (by grind) (k2 _ (by grind))).1;rw [fD h] at h3;rcases bY (g s) with ⟨h4,h5⟩|⟨h4,h5⟩|⟨h4,h5⟩
 ·rw [h5] at h3;exact absurd h3 dZ
 ·rw [h5] at h3;exact absurd h3 dZ
 ·exact h4
theorem zH{q:List Rat}(h0:tz q≠[]){a:Rat}{n:Nat}(hn:(tz q).length≤n)(h:0<eP n q a){b:Rat}(hb:a<b):∃ s,a<s∧s<b∧0<evV q s:=by
 obtain ⟨k,g,hg,hga,he⟩:=BV a _ q (nXe _) h0;have hk:=mO k q g hg h0 he;rw [kC k n q g zo hg hga he] at h;have hgp:0<g a:=by
  rcases bY (g a) with ⟨h4,h5⟩|⟨h4,h5⟩|⟨h4,h5⟩
  ·rw [h5] at h;exact absurd h dZ
  ·rw [h5] at h;exact absurd h dZ
  ·exact h4
 obtain ⟨e,he0,h1⟩:=DI hg hgp;obtain ⟨c,hc,c1,c2⟩:=ib he0 (show 0<b-a by grind);have hmid:0<c / 2∧c / 2<c:=by
  have:=aw (a:=c) (b:=2) dZ;exact ⟨by grind,by grind⟩
 refine ⟨a+c / 2,by grind,by grind,?_⟩;rw [he];have h2:=h1 (a+c / 2) (by grind) (by grind);have h3:∀ k:Nat,0<(a+c / 2-a) ^ k:=fun k=>Rat.pow_pos (by grind)
 exact Rat.mul_pos (h3 k) h2
theorem BE{q:List Rat}(h0:tz q≠[]){a:Rat}{n:Nat}(hn:(tz q).length≤n)(h:eP n q a<0){b:Rat}(hb:a<b):∃ s,a<s∧s<b∧evV q s<0:=by
 obtain ⟨k,g,hg,hga,he⟩:=BV a _ q (nXe _) h0;have hk:=mO k q g hg h0 he;rw [kC k n q g zo hg hga he] at h;have hgp:0 < -1*g a:=by
  rcases bY (g a) with ⟨h4,h5⟩|⟨h4,h5⟩|⟨h4,h5⟩
  ·grind
  ·rw [h5] at h;exact absurd h dZ
  ·rw [h5] at h;exact absurd h dZ
 obtain ⟨e,he0,h1⟩:=DI (hg.smul (-1)) hgp;obtain ⟨c,hc,c1,c2⟩:=ib he0 (show 0<b-a by grind);have hmid:0<c / 2∧c / 2<c:=by
  have:=aw (a:=c) (b:=2) dZ;exact ⟨by grind,by grind⟩
 refine ⟨a+c / 2,by grind,by grind,?_⟩;rw [he];have h2:=h1 (a+c / 2) (by grind) (by grind);have h3:∀ k:Nat,0<(a+c / 2-a) ^ k:=fun k=>Rat.pow_pos (by grind)
 have h4:=Rat.mul_pos (h3 k) h2;have h5:(a+c / 2-a) ^ k*(-1*g (a+c / 2))=-((a+c / 2-a) ^ k*g (a+c / 2)):=by grind
 rw [h5] at h4;grind
end Go.Proofs.YtafgmcimcbhhjaaGreat.Sg
