import Derived.Test.YtafgmcimcbhhjaaGreatQBK19
set_option linter.unusedVariables false
namespace Go.Proofs.YtafgmcimcbhhjaaGreat
open Go.RowKit Go.Front Go.Num Stab
attribute [local go_sem] XW.cell XW.frozen
theorem eL(x:SH)(t:RH)(l:List Rat)(c:Rat)(S T:Nat)(w:World)(h:aD w x l)(k:aA w t c)(zl:SzL S l)(zc:Sz T c)(hn:l.length≤200)(hS:S≤8000000)(hT:T≤8000000) :
  ak 102 [x.v,t.v] w SH.v (fun s w'=>bW w.heap.size w' s (scP l c)):=by
 obtain ⟨ao,n,cap⟩:=x;have e1:=h.len;simp only at e1;exact bK ao n cap l t c w (h.raw zl zo) (k.raw zc zo) zo (zl.mono zo) (zc.mono zo)
theorem nf(x:SH)(t:RH)(l:List Rat)(c:Rat)(S T:Nat)(w:World)(h:aD w x l)(k:aP w t c)(zl:SzL S l)(zc:Sz T c)(hn:l.length≤200)(hS:S≤8000000)(hT:T≤8000000) :
  ak 102 [x.v,t.v] w SH.v (fun s w'=>bW w.heap.size w' s (scP l c)):=by
 obtain ⟨ao,n,cap⟩:=x;have e1:=h.len;simp only at e1;exact bK ao n cap l t c w (h.raw zl zo) k zo (zl.mono zo) (zc.mono zo)
theorem jR(s t:SH)(p q:List Rat)(S:Nat)(w:World)(h:aD w s p)(k:aD w t q)(zp:SzL S p)(zq:SzL S q)(hn:p.length≤200)(hm:q.length≤200)(hS:S≤8000000) :
  ak 119 [s.v,t.v] w SH.v (fun s w'=>bW w.heap.size w' s (br p q)):=by
 obtain ⟨ao,n,c⟩:=s;obtain ⟨bo,m,d⟩:=t;have e1:=h.len;have e2:=k.len;simp only at e1 e2;exact eG ao bo n c m d p q w (h.raw zp zo) (k.raw zq zo) zo zo (zp.mono zo) (zq.mono zo)
set_option maxRecDepth 8000 in
set_option maxHeartbeats 16000000 in
theorem Cy(n:Nat)(s t u:RH)(e r q:Rat)(K:Nat)(w:World)(hn:n=2∨n=4)(hs:aP w s e)(ht:aP w t r)(hu:aP w u q)(ze:Sz K e)(zr:Sz K r)(zq:Sz K q)(hK:1≤K)(hK2:K≤1000)(he:dP (n:Nat) e r=0)(h0:0<q)(h1:q<1) :
  ak 55 [.int .i64 (n:Nat),s.v,t.v,u.v] w PE (MkP 0 ((1:Int):Rat) (elE n e q) 0 (elD n e r q)):=by
 obtain ⟨sn,sa,sl,sc,sb,sm,sd⟩:=s;obtain ⟨tn,ta,tl,tc,tb,tm,td⟩:=t;obtain ⟨un,ua,ul,uc,ub,um,ud⟩:=u;have HX:=Hi (Ext.refl w);have HS:=Hi hs;have HT:=Hi ht;have HU:=Hi hu;have ZE:=Hi ze;have ZR:=Hi zr;have ZQ:=Hi zq;have HW:=Hi he;have HZ:=Hi (Gy (r:=r) hn ze zr zq hK);have Z1:Hid (Sz 1 ((1:Int):Rat)):=Hi (Sz.int dZ);have Z2:Hid (Sz 1 ((2:Int):Rat)):=Hi (Sz.int dZ);obtain ⟨-,-,-,k4,-⟩:=jt he;have KD:=Hi (jx k4);have HC1:Hid (¬ dq q 0≤0):=Hi (fun h=>by rw [iW] at h;grind);have HC2:Hid (¬ 0≤dq q ((1:Int):Rat)):=Hi (fun h=>by rw [oP] at h;have e1:((1:Int):Rat)=1:=rfl;rw [e1] at h;grind);have HDW:Hid (((1:Int):Rat)+q*q≠0):=Hi (by have e1:((1:Int):Rat)=1:=rfl;rw [e1];have:=Rat.mul_pos h0 h0;grind);obtain ⟨lA,lB⟩:=Sg.elAB_len (elT n q) e;obtain ⟨lE,lO⟩:=Sg.elEO_len (n:=n) e q;have LA0:=Hi lA;have LB0:=Hi lB;have LE0:=Hi lE;have LO0:=Hi lO;have LD0:=Hi (Sg.elD_len (n:=n) e r q);have LAA:Hid ((aq (elA (elT n q) e) (elA (elT n q) e)).length≤3):=Hi (bq lA lA);have LBB:Hid ((aq (elB (elT n q) e) (elB (elT n q) e)).length≤3):=Hi (bq lB lB);have LEE:Hid ((aq (elE n e q) (elE n e q)).length≤5):=Hi (bq lE lE);have LOO:Hid ((aq (elO n e q) (elO n e q)).length≤5):=Hi (bq lO lO);have LS1:=Hi (bN (bL miQ 1) ((elT n q+((1:Int):Rat))*aG e) (ft 1));have LS2:=Hi (bN (bL miQ 1) ((elT n q-((1:Int):Rat))*aG e) (ft 1));have LR:=Hi (bN (aq (elO n e q) (elO n e q)) r LOO.out);have LP1:=Hi (iu 1);have LM1:=Hi (ft 1);have FP1:=Hi rh;have FM1:=Hi ry;clear hs ht hu ze zr zq he h0 h1 k4 lA lB lE lO;unfold ak;go_enter Tryz.func55,Tryz.ntmps55
 go_upto_region 1 with fail
 refine Il ?_;intro w1 hE B5 B6 B7 B8 hz_w1 hr_w1;refine mV4 hE ?_ HX HS HT HU;clear HX HS HT HU;intro HX HS HT HU;replace b_B5:=bX3 B5;replace b_B6:=bX3 B6;rcases hn with rfl|rfl
 ·skip
  go_wp2_with fail
  refine cM (fZ (2:Nat) ⟨sn,sa,sl,sc,sb,sm,sd⟩ ⟨tn,ta,tl,tc,tb,tm,td⟩ e r _ HS.out HT.out) fun x33 w33 hE _=>?_
  refine mV8 hE ?_ B5 B6 B7 B8 HX HS HT HU;clear B5 B6 B7 B8 HX HS HT HU;intro B5 B6 B7 B8 HX HS HT HU;have hs_w33:=hE.size;rw [HW.out]
  go_wp2_with fail
  refine cM (aL 1 _ dZ dZ) fun x38 w38 hE G38=>?_
  refine mV8 hE ?_ B5 B6 B7 B8 HX HS HT HU;clear B5 B6 B7 B8 HX HS HT HU;intro B5 B6 B7 B8 HX HS HT HU;have hs_w38:=hE.size
  go_upto_region 7 with fail
  refine nmA ?_;intro w39 hE B11 hz_w39 hr_w39;refine mV8 hE ?_ G38 B5 B6 B7 B8 HX HS HT;clear G38 B5 B6 B7 B8 HX HS HT;intro G38 B5 B6 B7 B8 HX HS HT;replace HU:=mV hE HU;replace b_B7:=bX3 B7;replace b_B11:=bX3 B11;have R1:Hid (aP w39 x38 ((1:Int):Rat)):=Hi (G38.out.raw Z1.out dZ);obtain ⟨on,oa,ol,oc,ob,om,od⟩:=x38;clear G38
  go_wp2_with fail
  refine cM (cW ⟨un,ua,ul,uc,ub,um,ud⟩ q _ HU.out) fun x40 w40 hE _=>?_
  refine mV8 hE ?_ B11 B5 B6 B7 B8 HX HS HT;clear B11 B5 B6 B7 B8 HX HS HT;intro B11 B5 B6 B7 B8 HX HS HT;refine mV2 hE ?_ HU R1;clear HU R1;intro HU R1;have hs_w40:=hE.size;replace b_B7:=bX3 B7;replace b_B11:=bX3 B11;obtain ⟨c1,hc1⟩:∃ c,c=dq q 0:=⟨_,rfl⟩;have hn1:¬ c1≤0:=by have a:=HC1.out;omega
  rw [←hc1];clear hc1
  go_wp2_with fail
  refine cM (eb ⟨un,ua,ul,uc,ub,um,ud⟩ ⟨on,oa,ol,oc,ob,om,od⟩ q ((1:Int):Rat) _ HU.out R1.out) fun x45 w45 hE _=>?_
  refine mV8 hE ?_ B11 B5 B6 B7 B8 HX HS HT;clear B11 B5 B6 B7 B8 HX HS HT;intro B11 B5 B6 B7 B8 HX HS HT;refine mV2 hE ?_ HU R1;clear HU R1;intro HU R1;have hs_w45:=hE.size;replace b_B7:=bX3 B7;obtain ⟨c2,hc2⟩:∃ c,c=dq q ((1:Int):Rat):=⟨_,rfl⟩;have hn2:¬ 0≤c2:=by have a:=HC2.out;omega
  rw [←hc2];clear hc2;have hd1:decide (c1≤0)=false:=decide_eq_false zo;have hd2:decide (0≤c2)=false:=decide_eq_false zo
  go_wp2_with fail
  refine cM (cG ⟨un,ua,ul,uc,ub,um,ud⟩ q _ HU.out) fun x50 w50 hE G50=>?_
  refine mV8 hE ?_ B11 B5 B6 B8 HX HS HT R1;clear B11 B5 B6 B8 HX HS HT R1;intro B11 B5 B6 B8 HX HS HT R1;have hs_w50:=hE.size
  go_upto_region 10 with fail
  refine nmA ?_;intro w51 hE B12 hz_w51 hr_w51;refine mV8 hE ?_ G50 B11 B5 B6 B8 HX HS HT;clear G50 B11 B5 B6 B8 HX HS HT;intro G50 B11 B5 B6 B8 HX HS HT;replace R1:=mV hE R1;replace b_B5:=bX3 B5;replace b_B12:=bX3 B12;have GT:Hid (aP w51 x50 (elT 2 q)):=Hi (by have h:=G50.out.raw ZQ.out zo;exact h);obtain ⟨pn,pa,pl,pc,pb,pm,pd⟩:=x50;clear G50
  go_wp2_with fail
  refine cM (iq ⟨sn,sa,sl,sc,sb,sm,sd⟩ e K _ HS.out ZE.out hK zo KD.out) fun x57 w57 hE G57=>?_
  refine mV8 hE ?_ B12 B11 B6 B8 HX HT R1 GT;clear B12 B11 B6 B8 HX HT R1 GT;intro B12 B11 B6 B8 HX HT R1 GT;have hs_w57:=hE.size
  go_upto_region 13 with fail
  refine nmA ?_;intro w58 hE B13 hz_w58 hr_w58;refine mV8 hE ?_ G57 B12 B11 B6 B8 HX HT R1;clear G57 B12 B11 B6 B8 HX HT R1;intro G57 B12 B11 B6 B8 HX HT R1;replace GT:=mV hE GT;replace b_B11:=bX3 B11;replace b_B12:=bX3 B12;replace b_B13:=bX3 B13;have GC:Hid (aP w58 x57 (aG e)):=Hi (by have h:=G57.out.raw HZ.out.zC zo;exact h);obtain ⟨wn,wa,wl,wc,wb,wm,wd⟩:=x57;clear G57;refine wpG 9 (fun opIx=>match opIx with
   | 0=>.spec (SH) (default) (SH.v) (fun x w'=>aD w' x (bL miQ 1))
   | 3=>sR ((elT 2 q+((1:Int):Rat)))
   | 5=>sR ((elT 2 q+((1:Int):Rat))*aG e)
   | 6=>.spec (SH) (default) (SH.v) (fun x w'=>aD w' x (scP (bL miQ 1) ((elT 2 q+((1:Int):Rat))*aG e)))
   | 7=>.spec (SH) (default) (SH.v) (fun x w'=>aD w' x (bL plQ 1))
   | 8=>.spec (SH) (default) (SH.v) (fun x w'=>bW w1.heap.size w' x (elA (elT 2 q) e))
   | _=>.quiet) (fun|5=>[3]|6=>[0,5]|8=>[6,7]|_=>[]) fun w0 he0 hz0 hc0 hf0=>?_
  refine wps he0 (fun w1 hW hG=>?_) fun x60=>?_
  ·exact spc [.int .i64 (1:Nat)] Tryz.func117 (dC 1 _ dZ)
  refine qZ ?_;refine wps he0 (fun w1 hW hG=>?_) fun x61=>?_
  ·exact spc [RH.v ⟨pn,pa,pl,pc,pb,pm,pd⟩,RH.v ⟨on,oa,ol,oc,ob,om,od⟩] Tryz.func118 (df ⟨pn,pa,pl,pc,pb,pm,pd⟩ ⟨on,oa,ol,oc,ob,om,od⟩ (elT 2 q) ((1:Int):Rat) _ (GT.out.ext hW) (R1.out.ext hW))
  refine qZ ?_;refine wps he0 (fun w1 hW hG=>?_) fun x62=>?_
  ·have g61:=gS (hG 3 dZ);exact spc [x61.v,RH.v ⟨wn,wa,wl,wc,wb,wm,wd⟩] Tryz.func85 (aV x61 ⟨wn,wa,wl,wc,wb,wm,wd⟩ _ (aG e) _ (g61.raw HZ.out.z1 zo) (GC.out.ext hW))
  refine qZ ?_;refine wps he0 (fun w1 hW hG=>?_) fun x63=>?_
  ·have g60:=gS (hG 0 dZ);have g62:=gS (hG 5 dZ);exact spc [x60.v,x62.v] Tryz.func102 ((eL x60 x62 _ _ 5 (4*K+8) _ g60 g62 FM1.out.sz HZ.out.c1 (by have:=LM1.out;omega) dZ zo).weak (fun _ _ _ h=>h.can))
  refine qZ ?_;refine wps he0 (fun w1 hW hG=>?_) fun x64=>?_
  ·exact spc [.int .i64 (1:Nat)] Tryz.func101 (dH 1 _ dZ)
  refine qZ ?_;refine wps he0 (fun w1 hW hG=>?_) fun x65=>?_
  ·have g63:=gS (hG 6 dZ);have g64:=gS (hG 7 dZ);exact spc [x63.v,x64.v] Tryz.func116 ((qV x63 x64 _ _ (4*K+13) _ g63 g64 HZ.out.f1.sz (FP1.out.sz.mono zo) (by have:=LS1.out;omega) (by have:=LP1.out;omega) zo).weak (fun _ _ _ h=>h.mono (by have:=hW.size;omega)))
  refine qZ ?_;refine aj ?_;intro w66 hI;have hE:=he0.out.trans hI.ext;have G65:=gT (hI.facts 8);clear hI he0 hz0 hc0 hf0;refine mV8 hE ?_ B13 B12 B11 B6 B8 HX HT R1;clear B13 B12 B11 B6 B8 HX HT R1;intro B13 B12 B11 B6 B8 HX HT R1;refine mV2 hE ?_ GT GC;clear GT GC;intro GT GC;have hs_w66:=hE.size;replace b_B11:=bX3 B11;replace b_B12:=bX3 B12;replace b_B13:=bX3 B13;simp only [pD];obtain ⟨xa,xn,xc⟩:=x65;have LA:Hid (LIn w66 ⟨xa,xn,xc⟩ (elA (elT 2 q) e) w1.heap.size w66.heap.size):=Hi G65.out;clear G65;simp only [SH.v]
  go_upto_region 14 with fail
  refine wpG 9 (fun opIx=>match opIx with
   | 0=>.spec (SH) (default) (SH.v) (fun x w'=>aD w' x (bL miQ 1))
   | 3=>sR ((elT 2 q-((1:Int):Rat)))
   | 5=>sR ((elT 2 q-((1:Int):Rat))*aG e)
   | 6=>.spec (SH) (default) (SH.v) (fun x w'=>aD w' x (scP (bL miQ 1) ((elT 2 q-((1:Int):Rat))*aG e)))
   | 7=>.spec (SH) (default) (SH.v) (fun x w'=>aD w' x (bL plQ 1))
   | 8=>.spec (SH) (default) (SH.v) (fun x w'=>bW w1.heap.size w' x (elB (elT 2 q) e))
   | _=>.quiet) (fun|5=>[3]|6=>[0,5]|8=>[6,7]|_=>[]) fun w0 he0 hz0 hc0 hf0=>?_
  refine wps he0 (fun w1 hW hG=>?_) fun x70=>?_
  ·exact spc [.int .i64 (1:Nat)] Tryz.func117 (dC 1 _ dZ)
  refine qZ ?_;refine wps he0 (fun w1 hW hG=>?_) fun x71=>?_
  ·exact spc [RH.v ⟨pn,pa,pl,pc,pb,pm,pd⟩,RH.v ⟨on,oa,ol,oc,ob,om,od⟩] Tryz.func120 (dG ⟨pn,pa,pl,pc,pb,pm,pd⟩ ⟨on,oa,ol,oc,ob,om,od⟩ (elT 2 q) ((1:Int):Rat) _ (GT.out.ext hW) (R1.out.ext hW))
  refine qZ ?_;refine wps he0 (fun w1 hW hG=>?_) fun x72=>?_
  ·have g71:=gS (hG 3 dZ);exact spc [x71.v,RH.v ⟨wn,wa,wl,wc,wb,wm,wd⟩] Tryz.func85 (aV x71 ⟨wn,wa,wl,wc,wb,wm,wd⟩ _ (aG e) _ (g71.raw HZ.out.z2 zo) (GC.out.ext hW))
  refine qZ ?_;refine wps he0 (fun w1 hW hG=>?_) fun x73=>?_
  ·have g70:=gS (hG 0 dZ);have g72:=gS (hG 5 dZ);exact spc [x70.v,x72.v] Tryz.func102 ((eL x70 x72 _ _ 5 (4*K+8) _ g70 g72 FM1.out.sz HZ.out.c2 (by have:=LM1.out;omega) dZ zo).weak (fun _ _ _ h=>h.can))
  refine qZ ?_;refine wps he0 (fun w1 hW hG=>?_) fun x74=>?_
  ·exact spc [.int .i64 (1:Nat)] Tryz.func101 (dH 1 _ dZ)
  refine qZ ?_;refine wps he0 (fun w1 hW hG=>?_) fun x75=>?_
  ·have g73:=gS (hG 6 dZ);have g74:=gS (hG 7 dZ);exact spc [x73.v,x74.v] Tryz.func119 ((jR x73 x74 _ _ (4*K+13) _ g73 g74 HZ.out.f2.sz (FP1.out.sz.mono zo) (by have:=LS2.out;omega) (by have:=LP1.out;omega) zo).weak (fun _ _ _ h=>h.mono (by have:=hW.size;omega)))
  refine qZ ?_;refine aj ?_;intro w76 hI;have hE:=he0.out.trans hI.ext;have G75:=gT (hI.facts 8);clear hI he0 hz0 hc0 hf0;refine mV5 hE ?_ B6 B8 HX HT LA;clear B6 B8 HX HT LA;intro B6 B8 HX HT LA;have hs_w76:=hE.size;replace b_B6:=bX3 B6;simp only [pD];obtain ⟨ya,yn,yc⟩:=x75;have LB:Hid (LIn w76 ⟨ya,yn,yc⟩ (elB (elT 2 q) e) w1.heap.size w76.heap.size):=Hi G75.out;clear G75;simp only [SH.v]
  go_upto_region 15 with fail
  have LE:Hid (LIn w76 ⟨ya,yn,yc⟩ (elE 2 e q) w1.heap.size w76.heap.size):=Hi LB.out;have LO:Hid (LIn w76 ⟨xa,xn,xc⟩ (elO 2 e q) w1.heap.size w66.heap.size):=Hi LA.out;clear LA;clear LB
  go_upto_region 21 with fail
  refine wpG 9 (fun opIx=>match opIx with
   | 2=>.spec (SH) (default) (SH.v) (fun x w'=>aD w' x (aq (elE 2 e q) (elE 2 e q)))
   | 5=>.spec (SH) (default) (SH.v) (fun x w'=>aD w' x (aq (elO 2 e q) (elO 2 e q)))
   | 7=>.spec (SH) (default) (SH.v) (fun x w'=>aD w' x (scP (aq (elO 2 e q) (elO 2 e q)) r))
   | 8=>.spec (SH) (default) (SH.v) (fun x w'=>bW w76.heap.size w' x (elD 2 e r q))
   | _=>.quiet) (fun|7=>[5]|8=>[2,7]|_=>[]) fun w0 he0 hz0 hc0 hf0=>?_
  refine wps he0 (fun w1 hW hG=>?_) fun x120=>?_
  ·exact spc [.slice ya yn yc,.slice ya yn yc] Tryz.func100 ((ks ⟨ya,yn,yc⟩ ⟨ya,yn,yc⟩ _ _ (19*K+85) (19*K+85) _ (LE.out.can.ext hW) (LE.out.can.ext hW) HZ.out.fE HZ.out.fE (by have:=LE0.out;omega) (by have:=LE0.out;omega) zo).weak (fun _ _ _ h=>h.can))
  refine qZ ?_;refine wps he0 (fun w1 hW hG=>?_) fun x121=>?_
  ·exact spc [.slice xa xn xc,.slice xa xn xc] Tryz.func100 ((ks ⟨xa,xn,xc⟩ ⟨xa,xn,xc⟩ _ _ (19*K+85) (19*K+85) _ (LO.out.can.ext hW) (LO.out.can.ext hW) HZ.out.fO HZ.out.fO (by have:=LO0.out;omega) (by have:=LO0.out;omega) zo).weak (fun _ _ _ h=>h.can))
  refine qZ ?_;refine wps he0 (fun w1 hW hG=>?_) fun x122=>?_
  ·have g121:=gS (hG 5 dZ);exact spc [x121.v,RH.v ⟨tn,ta,tl,tc,tb,tm,td⟩] Tryz.func102 ((nf x121 ⟨tn,ta,tl,tc,tb,tm,td⟩ _ r (38*K+171) K _ g121 (HT.out.ext hW) HZ.out.fOO.sz ZR.out (by have:=LOO.out;omega) zo zo).weak (fun _ _ _ h=>h.can))
  refine qZ ?_;refine wps he0 (fun w1 hW hG=>?_) fun x123=>?_
  ·have g120:=gS (hG 2 dZ);have g122:=gS (hG 7 dZ);exact spc [x120.v,x122.v] Tryz.func119 ((jR x120 x122 _ _ (39*K+171) _ g120 g122 (HZ.out.fEE.sz.mono zo) HZ.out.fR.sz (by have:=LEE.out;omega) (by have:=LR.out;omega) zo).weak (fun _ _ _ h=>h.mono hW.size))
  refine qZ ?_;refine aj ?_;intro w120 hI;have hE:=he0.out.trans hI.ext;have G123:=gT (hI.facts 8);clear hI he0 hz0 hc0 hf0;refine mV3 hE ?_ B8 HX LE;clear B8 HX LE;intro B8 HX LE;simp only [pD];obtain ⟨da,dn,dc⟩:=x123;have LD:=Hi G123.out;clear G123;simp only [SH.v]
  go_wp2_with fail
  refine cM (aL 1 _ dZ dZ) fun x124 w124 hE G124=>?_
  refine mV4 hE ?_ B8 HX LE LD;clear B8 HX LE LD;intro B8 HX LE LD;replace b_B8:=bX3 B8;clear LO;obtain ⟨in1,ia,il,ic,ib,im,id1⟩:=x124;go_wp2;refine bh (F:=fun W=>bodyPost _ _ _ _ _ W) B8.out rfl ?_;intro w130 T;replace HX:=Hi (T.ext HX.out zo);replace B8:=Hi (T.bx);replace LE:=Hi (LE.out.put T zo);replace LD:=Hi (LD.out.put T zo);replace G124:=Hi (G124.out.keep T.keep);clear T;replace b_B8:=bX3 B8;exact nXa (v:=PE (⟨⟨in1,ia,il,ic,ib,im,id1⟩,⟨ya,yn,yc⟩,0,⟨da,dn,dc⟩⟩,0)) (by simp [results,Tryz.results55,go_sem,b_B8.1]) rfl ⟨(⟨⟨in1,ia,il,ic,ib,im,id1⟩,⟨ya,yn,yc⟩,0,⟨da,dn,dc⟩⟩,0),rfl,HX.out,rfl,fun h=>absurd rfl h,fun _=>⟨G124.out,LE.out.can,rfl,LD.out.can⟩⟩
 ·skip
  go_wp2_with fail
  refine cM (fZ (4:Nat) ⟨sn,sa,sl,sc,sb,sm,sd⟩ ⟨tn,ta,tl,tc,tb,tm,td⟩ e r _ HS.out HT.out) fun x33 w33 hE _=>?_
  refine mV8 hE ?_ B7 HU B5 HS B6 HT HX B8;clear B7 HU B5 HS B6 HT HX B8;intro B7 HU B5 HS B6 HT HX B8;have hs_w33:=hE.size;rw [HW.out]
  go_wp2_with fail
  refine cM (aL 1 _ dZ dZ) fun x38 w38 hE G38=>?_
  refine mV8 hE ?_ B7 HU B5 HS B6 HT HX B8;clear B7 HU B5 HS B6 HT HX B8;intro B7 HU B5 HS B6 HT HX B8;have hs_w38:=hE.size
  go_upto_region 7 with fail
  refine nmA ?_;intro w39 hE B11 hz_w39 hr_w39;refine mV8 hE ?_ G38 B7 HU B5 HS B6 HT HX;clear G38 B7 HU B5 HS B6 HT HX;intro G38 B7 HU B5 HS B6 HT HX;replace B8:=mV hE B8;replace b_B7:=bX3 B7;replace b_B11:=bX3 B11;have R1:Hid (aP w39 x38 ((1:Int):Rat)):=Hi (G38.out.raw Z1.out dZ);obtain ⟨on,oa,ol,oc,ob,om,od⟩:=x38;clear G38
  go_wp2_with fail
  refine cM (cW ⟨un,ua,ul,uc,ub,um,ud⟩ q _ HU.out) fun x40 w40 hE _=>?_
  refine mV8 hE ?_ B11 B7 HU B5 HS B6 HT HX;clear B11 B7 HU B5 HS B6 HT HX;intro B11 B7 HU B5 HS B6 HT HX;refine mV2 hE ?_ B8 R1;clear B8 R1;intro B8 R1;have hs_w40:=hE.size;replace b_B7:=bX3 B7;replace b_B11:=bX3 B11;obtain ⟨c1,hc1⟩:∃ c,c=dq q 0:=⟨_,rfl⟩;have hn1:¬ c1≤0:=by have a:=HC1.out;omega
  rw [←hc1];clear hc1
  go_wp2_with fail
  refine cM (eb ⟨un,ua,ul,uc,ub,um,ud⟩ ⟨on,oa,ol,oc,ob,om,od⟩ q ((1:Int):Rat) _ HU.out R1.out) fun x45 w45 hE _=>?_
  refine mV8 hE ?_ B11 B7 HU B5 HS B6 HT HX;clear B11 B7 HU B5 HS B6 HT HX;intro B11 B7 HU B5 HS B6 HT HX;refine mV2 hE ?_ B8 R1;clear B8 R1;intro B8 R1;have hs_w45:=hE.size;replace b_B7:=bX3 B7;obtain ⟨c2,hc2⟩:∃ c,c=dq q ((1:Int):Rat):=⟨_,rfl⟩;have hn2:¬ 0≤c2:=by have a:=HC2.out;omega
  rw [←hc2];clear hc2;have hd1:decide (c1≤0)=false:=decide_eq_false zo;have hd2:decide (0≤c2)=false:=decide_eq_false zo
  go_wp2_with fail
  refine cM (cG ⟨un,ua,ul,uc,ub,um,ud⟩ q _ HU.out) fun x50 w50 hE _=>?_
  refine mV8 hE ?_ B11 B7 HU B5 HS B6 HT HX;clear B11 B7 HU B5 HS B6 HT HX;intro B11 B7 HU B5 HS B6 HT HX;refine mV2 hE ?_ B8 R1;clear B8 R1;intro B8 R1;have hs_w50:=hE.size
  go_upto_region 10 with fail
  refine nmA ?_;intro w51 hE B12 hz_w51 hr_w51;refine mV8 hE ?_ B11 B7 HU B5 HS B6 HT HX;clear B11 B7 HU B5 HS B6 HT HX;intro B11 B7 HU B5 HS B6 HT HX;refine mV2 hE ?_ B8 R1;clear B8 R1;intro B8 R1;replace b_B7:=bX3 B7
  go_wp2_with fail
  refine cM (aV ⟨un,ua,ul,uc,ub,um,ud⟩ ⟨un,ua,ul,uc,ub,um,ud⟩ q q _ HU.out HU.out) fun x55 w55 hE G55=>?_
  refine mV8 hE ?_ B12 B11 B7 HU B5 HS B6 HT;clear B12 B11 B7 HU B5 HS B6 HT;intro B12 B11 B7 HU B5 HS B6 HT;refine mV3 hE ?_ HX B8 R1;clear HX B8 R1;intro HX B8 R1;have hs_w55:=hE.size;replace b_B12:=bX3 B12
  go_upto_region 12 with fail
  refine aU B12.out rfl ?_;intro w56 T;replace HX:=Hi (T.ext HX.out zo);replace HS:=Hi (HS.out.keep T.keep);replace HT:=Hi (HT.out.keep T.keep);replace HU:=Hi (HU.out.keep T.keep);replace B5:=Hi (T.rest _ _ zo B5.out);replace B6:=Hi (T.rest _ _ zo B6.out);replace B7:=Hi (T.rest _ _ zo B7.out);replace B8:=Hi (T.rest _ _ zo B8.out);replace B11:=Hi (T.rest _ _ zo B11.out);replace R1:=Hi (R1.out.keep T.keep);replace B12:=Hi (T.bx);replace G55:=Hi (G55.out.keep T.keep);have hs_w56:=nle T.size;have hr_w56:=nle T.size.symm;clear T;replace b_B5:=bX3 B5;replace b_B12:=bX3 B12;have GT:Hid (aP w56 x55 (elT 4 q)):=Hi (by have h:=G55.out.raw (ZQ.out.mul ZQ.out) zo;exact h);obtain ⟨pn,pa,pl,pc,pb,pm,pd⟩:=x55;clear G55
  go_wp2_with fail
  refine cM (iq ⟨sn,sa,sl,sc,sb,sm,sd⟩ e K _ HS.out ZE.out hK zo KD.out) fun x57 w57 hE G57=>?_
  refine mV8 hE ?_ HX HT HU B6 B7 B8 B11 R1;clear HX HT HU B6 B7 B8 B11 R1;intro HX HT HU B6 B7 B8 B11 R1;refine mV2 hE ?_ B12 GT;clear B12 GT;intro B12 GT;have hs_w57:=hE.size
  go_upto_region 13 with fail
  refine nmA ?_;intro w58 hE B13 hz_w58 hr_w58;refine mV8 hE ?_ G57 HX HT HU B6 B7 B8 B11;clear G57 HX HT HU B6 B7 B8 B11;intro G57 HX HT HU B6 B7 B8 B11;refine mV3 hE ?_ R1 B12 GT;clear R1 B12 GT;intro R1 B12 GT;replace b_B11:=bX3 B11;replace b_B12:=bX3 B12;replace b_B13:=bX3 B13;have GC:Hid (aP w58 x57 (aG e)):=Hi (by have h:=G57.out.raw HZ.out.zC zo;exact h);obtain ⟨wn,wa,wl,wc,wb,wm,wd⟩:=x57;clear G57;refine wpG 9 (fun opIx=>match opIx with
   | 0=>.spec (SH) (default) (SH.v) (fun x w'=>aD w' x (bL miQ 1))
   | 3=>sR ((elT 4 q+((1:Int):Rat)))
   | 5=>sR ((elT 4 q+((1:Int):Rat))*aG e)
   | 6=>.spec (SH) (default) (SH.v) (fun x w'=>aD w' x (scP (bL miQ 1) ((elT 4 q+((1:Int):Rat))*aG e)))
   | 7=>.spec (SH) (default) (SH.v) (fun x w'=>aD w' x (bL plQ 1))
   | 8=>.spec (SH) (default) (SH.v) (fun x w'=>bW w1.heap.size w' x (elA (elT 4 q) e))
   | _=>.quiet) (fun|5=>[3]|6=>[0,5]|8=>[6,7]|_=>[]) fun w0 he0 hz0 hc0 hf0=>?_
  refine wps he0 (fun w1 hW hG=>?_) fun x60=>?_
  ·exact spc [.int .i64 (1:Nat)] Tryz.func117 (dC 1 _ dZ)
  refine qZ ?_;refine wps he0 (fun w1 hW hG=>?_) fun x61=>?_
  ·exact spc [RH.v ⟨pn,pa,pl,pc,pb,pm,pd⟩,RH.v ⟨on,oa,ol,oc,ob,om,od⟩] Tryz.func118 (df ⟨pn,pa,pl,pc,pb,pm,pd⟩ ⟨on,oa,ol,oc,ob,om,od⟩ (elT 4 q) ((1:Int):Rat) _ (GT.out.ext hW) (R1.out.ext hW))
  refine qZ ?_;refine wps he0 (fun w1 hW hG=>?_) fun x62=>?_
  ·have g61:=gS (hG 3 dZ);exact spc [x61.v,RH.v ⟨wn,wa,wl,wc,wb,wm,wd⟩] Tryz.func85 (aV x61 ⟨wn,wa,wl,wc,wb,wm,wd⟩ _ (aG e) _ (g61.raw HZ.out.z1 zo) (GC.out.ext hW))
  refine qZ ?_;refine wps he0 (fun w1 hW hG=>?_) fun x63=>?_
  ·have g60:=gS (hG 0 dZ);have g62:=gS (hG 5 dZ);exact spc [x60.v,x62.v] Tryz.func102 ((eL x60 x62 _ _ 5 (4*K+8) _ g60 g62 FM1.out.sz HZ.out.c1 (by have:=LM1.out;omega) dZ zo).weak (fun _ _ _ h=>h.can))
  refine qZ ?_;refine wps he0 (fun w1 hW hG=>?_) fun x64=>?_
  ·exact spc [.int .i64 (1:Nat)] Tryz.func101 (dH 1 _ dZ)
  refine qZ ?_;refine wps he0 (fun w1 hW hG=>?_) fun x65=>?_
  ·have g63:=gS (hG 6 dZ);have g64:=gS (hG 7 dZ);exact spc [x63.v,x64.v] Tryz.func116 ((qV x63 x64 _ _ (4*K+13) _ g63 g64 HZ.out.f1.sz (FP1.out.sz.mono zo) (by have:=LS1.out;omega) (by have:=LP1.out;omega) zo).weak (fun _ _ _ h=>h.mono (by have:=hW.size;omega)))
  refine qZ ?_;refine aj ?_;intro w66 hI;have hE:=he0.out.trans hI.ext;have G65:=gT (hI.facts 8);clear hI he0 hz0 hc0 hf0;refine mV8 hE ?_ B13 HX HT HU B6 B7 B8 B11;clear B13 HX HT HU B6 B7 B8 B11;intro B13 HX HT HU B6 B7 B8 B11;refine mV4 hE ?_ R1 B12 GT GC;clear R1 B12 GT GC;intro R1 B12 GT GC;have hs_w66:=hE.size;replace b_B11:=bX3 B11;replace b_B12:=bX3 B12;replace b_B13:=bX3 B13;simp only [pD];obtain ⟨xa,xn,xc⟩:=x65;have LA:Hid (LIn w66 ⟨xa,xn,xc⟩ (elA (elT 4 q) e) w1.heap.size w66.heap.size):=Hi G65.out;clear G65;simp only [SH.v]
  go_upto_region 14 with fail
  refine wpG 9 (fun opIx=>match opIx with
   | 0=>.spec (SH) (default) (SH.v) (fun x w'=>aD w' x (bL miQ 1))
   | 3=>sR ((elT 4 q-((1:Int):Rat)))
   | 5=>sR ((elT 4 q-((1:Int):Rat))*aG e)
   | 6=>.spec (SH) (default) (SH.v) (fun x w'=>aD w' x (scP (bL miQ 1) ((elT 4 q-((1:Int):Rat))*aG e)))
   | 7=>.spec (SH) (default) (SH.v) (fun x w'=>aD w' x (bL plQ 1))
   | 8=>.spec (SH) (default) (SH.v) (fun x w'=>bW w1.heap.size w' x (elB (elT 4 q) e))
   | _=>.quiet) (fun|5=>[3]|6=>[0,5]|8=>[6,7]|_=>[]) fun w0 he0 hz0 hc0 hf0=>?_
  refine wps he0 (fun w1 hW hG=>?_) fun x70=>?_
  ·exact spc [.int .i64 (1:Nat)] Tryz.func117 (dC 1 _ dZ)
  refine qZ ?_;refine wps he0 (fun w1 hW hG=>?_) fun x71=>?_
  ·exact spc [RH.v ⟨pn,pa,pl,pc,pb,pm,pd⟩,RH.v ⟨on,oa,ol,oc,ob,om,od⟩] Tryz.func120 (dG ⟨pn,pa,pl,pc,pb,pm,pd⟩ ⟨on,oa,ol,oc,ob,om,od⟩ (elT 4 q) ((1:Int):Rat) _ (GT.out.ext hW) (R1.out.ext hW))
  refine qZ ?_;refine wps he0 (fun w1 hW hG=>?_) fun x72=>?_
  ·have g71:=gS (hG 3 dZ);exact spc [x71.v,RH.v ⟨wn,wa,wl,wc,wb,wm,wd⟩] Tryz.func85 (aV x71 ⟨wn,wa,wl,wc,wb,wm,wd⟩ _ (aG e) _ (g71.raw HZ.out.z2 zo) (GC.out.ext hW))
  refine qZ ?_;refine wps he0 (fun w1 hW hG=>?_) fun x73=>?_
  ·have g70:=gS (hG 0 dZ);have g72:=gS (hG 5 dZ);exact spc [x70.v,x72.v] Tryz.func102 ((eL x70 x72 _ _ 5 (4*K+8) _ g70 g72 FM1.out.sz HZ.out.c2 (by have:=LM1.out;omega) dZ zo).weak (fun _ _ _ h=>h.can))
  refine qZ ?_;refine wps he0 (fun w1 hW hG=>?_) fun x74=>?_
  ·exact spc [.int .i64 (1:Nat)] Tryz.func101 (dH 1 _ dZ)
  refine qZ ?_;refine wps he0 (fun w1 hW hG=>?_) fun x75=>?_
  ·have g73:=gS (hG 6 dZ);have g74:=gS (hG 7 dZ);exact spc [x73.v,x74.v] Tryz.func119 ((jR x73 x74 _ _ (4*K+13) _ g73 g74 HZ.out.f2.sz (FP1.out.sz.mono zo) (by have:=LS2.out;omega) (by have:=LP1.out;omega) zo).weak (fun _ _ _ h=>h.mono (by have:=hW.size;omega)))
  refine qZ ?_;refine aj ?_;intro w76 hI;have hE:=he0.out.trans hI.ext;have G75:=gT (hI.facts 8);clear hI he0 hz0 hc0 hf0;refine mV8 hE ?_ HX HT HU B6 B7 B8 B11 R1;clear HX HT HU B6 B7 B8 B11 R1;intro HX HT HU B6 B7 B8 B11 R1;replace LA:=mV hE LA;have hs_w76:=hE.size;replace b_B7:=bX3 B7;replace b_B11:=bX3 B11;simp only [pD];obtain ⟨ya,yn,yc⟩:=x75;have LB:Hid (LIn w76 ⟨ya,yn,yc⟩ (elB (elT 4 q) e) w1.heap.size w76.heap.size):=Hi G75.out;clear G75;simp only [SH.v]
  go_upto_region 15 with fail
  go_upto_region 17 with fail
  refine aF [(13,11)] _ (by simp only [gI,kH,List.push_toArray,List.cons_append,List.nil_append];exact rfl) (by intro c a d v w h;cases d <;> exact h) 13 (fun opIx=>match opIx with
   | 0=>sR (((2:Int):Rat))
   | 2=>sR (((2:Int):Rat)*q)
   | 6=>sR (q*q)
   | 7=>sR (((1:Int):Rat)+q*q)
   | 8=>.spec (RH) (default) (fun s=>.tuple #[s.v,.int .i64 0]) (fun x w'=>aA w' x (elW q))
   | 12=>.alloc 34 #[.bool false,.slice none 0 0,.slice none 0 0]
   | _=>.quiet) (fun|2=>[0]|7=>[6]|8=>[2,7]|_=>[]) kZ kZ kZ (fun w0 he0 hz0 hc0 hf0=>?_)
  replace he0:=Hi he0;simp only [pT];refine qQ ?_;refine wps he0 (fun w1 hW hG=>?_) fun x80=>?_
  ·exact spc [.int .i64 2] Tryz.func84 (aL 2 _ dZ dZ)
  refine qZ ?_;refine wps he0 (fun w1 hW hG=>?_) fun x81=>?_
  ·have g80:=gS (hG 0 dZ);exact spc [x80.v,RH.v ⟨un,ua,ul,uc,ub,um,ud⟩] Tryz.func85 (aV x80 ⟨un,ua,ul,uc,ub,um,ud⟩ ((2:Int):Rat) q _ (g80.raw Z2.out dZ) (HU.out.ext hW))
  refine qZ ?_;refine wps he0 (fun w1 hW hG=>?_) fun x82=>?_
  ·exact spc [RH.v ⟨un,ua,ul,uc,ub,um,ud⟩,RH.v ⟨un,ua,ul,uc,ub,um,ud⟩] Tryz.func85 (aV ⟨un,ua,ul,uc,ub,um,ud⟩ ⟨un,ua,ul,uc,ub,um,ud⟩ q q _ (HU.out.ext hW) (HU.out.ext hW))
  refine qZ ?_;refine wps he0 (fun w1 hW hG=>?_) fun x83=>?_
  ·have g82:=gS (hG 6 dZ);exact spc [RH.v ⟨on,oa,ol,oc,ob,om,od⟩,x82.v] Tryz.func118 (df ⟨on,oa,ol,oc,ob,om,od⟩ x82 ((1:Int):Rat) (q*q) _ (R1.out.ext hW) (g82.raw (ZQ.out.mul ZQ.out) zo))
  refine qZ ?_;refine wps he0 (fun w1 hW hG=>?_) fun x84=>?_
  ·have g81:=gS (hG 2 dZ);have g83:=gS (hG 7 dZ);exact spc [x81.v,x83.v] Tryz.func121 (bZ x81 x83 (((2:Int):Rat)*q) (((1:Int):Rat)+q*q) _ (g81.raw (Z2.out.mul ZQ.out) zo) (g83.raw (Z1.out.add (ZQ.out.mul ZQ.out)) zo) HDW.out)
  refine qZ ?_;refine aQ rfl rfl (fun w=>by simp [execOp,go_sem,ptr]) (fun b85 hb85 hl85=>?_);refine qZ ?_;refine aj ?_;intro w80 hI;have hE:=he0.out.trans hI.ext;have G84:=gT (hI.facts 8);have A85:Hid (w80.heap[b85]?=some (.cells #[.bool false,.slice none 0 0,.slice none 0 0] 34 (0,0))):=hI.facts 12;rw [hz0] at hl85;clear hI he0 hz0 hc0 hf0;refine mV8 hE ?_ HX HT B6 B8 B11 R1 LA LB;clear HX HT B6 B8 B11 R1 LA LB;intro HX HT B6 B8 B11 R1 LA LB;have hs_w80:=hE.size;replace b_A85:=bX3 A85;simp only [pD,ptr];have GW:=Hi (G84.out.raw HZ.out.zw zo);clear G84;obtain ⟨vn,va,vl,vc,vb,vm,vd⟩:=x84
  go_upto_region 18 with fail
  refine aU A85.out rfl ?_;intro w85 T;replace HX:=Hi (T.ext HX.out zo);replace HT:=Hi (HT.out.keep T.keep);replace B6:=Hi (T.rest _ _ zo B6.out);replace B8:=Hi (T.rest _ _ zo B8.out);replace B11:=Hi (T.rest _ _ zo B11.out);replace R1:=Hi (R1.out.keep T.keep);replace LA:=Hi (LA.out.put T zo);replace LB:=Hi (LB.out.put T zo);replace A85:=Hi (T.bx);replace GW:=Hi (GW.out.keep T.keep);have hs_w85:=nle T.size;have hr_w85:=nle T.size.symm;clear T
  go_wp2_with fail
  refine cM (ks ⟨xa,xn,xc⟩ ⟨xa,xn,xc⟩ _ _ (4*K+19) (4*K+19) _ LA.out.can LA.out.can HZ.out.fA HZ.out.fA (by have:=LA0.out;omega) (by have:=LA0.out;omega) zo) fun x94 w94 hE G94=>?_
  refine mV8 hE ?_ HX HT B6 B8 B11 R1 LB A85;clear HX HT B6 B8 B11 R1 LB A85;intro HX HT B6 B8 B11 R1 LB A85;replace GW:=mV hE GW;have hs_w94:=hE.size;obtain ⟨fa,fn,fc⟩:=x94;simp only [SH.v]
  go_wp2_with fail
  refine cM (ks ⟨ya,yn,yc⟩ ⟨ya,yn,yc⟩ _ _ (4*K+19) (4*K+19) _ LB.out.can LB.out.can HZ.out.fB HZ.out.fB (by have:=LB0.out;omega) (by have:=LB0.out;omega) zo) fun x97 w97 hE G97=>?_
  refine mV8 hE ?_ G94 HX HT B6 B8 B11 R1 A85;clear G94 HX HT B6 B8 B11 R1 A85;intro G94 HX HT B6 B8 B11 R1 A85;replace GW:=mV hE GW;have hs_w97:=hE.size;replace b_B11:=bX3 B11;replace b_A85:=bX3 A85;obtain ⟨ga,gn,gc⟩:=x97;simp only [SH.v]
  go_wp2_with fail
  refine cM (dG ⟨vn,va,vl,vc,vb,vm,vd⟩ ⟨on,oa,ol,oc,ob,om,od⟩ _ _ _ GW.out R1.out) fun x101 w101 hE G101=>?_
  refine mV8 hE ?_ G97 G94 HX HT B6 B8 B11 R1;clear G97 G94 HX HT B6 B8 B11 R1;intro G97 G94 HX HT B6 B8 B11 R1;refine mV2 hE ?_ A85 GW;clear A85 GW;intro A85 GW;have hs_w101:=hE.size
  go_wp2_with fail
  refine cM (eL ⟨fa,fn,fc⟩ x101 _ _ (8*K+39) (3*K+6) _ G94.out.can G101.out HZ.out.fAA.sz HZ.out.zw2 (by have:=LAA.out;omega) zo zo) fun x102 w102 hE G102=>?_
  refine mV8 hE ?_ G97 G94 HX HT B6 B8 B11 R1;clear G97 G94 HX HT B6 B8 B11 R1;intro G97 G94 HX HT B6 B8 B11 R1;refine mV2 hE ?_ A85 GW;clear A85 GW;intro A85 GW;have hs_w102:=hE.size;have GS:=Hi G102.out.can.lin;clear G102;clear G101
  go_wp2_with fail
  refine cM (jR x102 ⟨ga,gn,gc⟩ _ _ (11*K+45) _ GS.out.can G97.out.can ((HZ.out.fAA.scP HZ.out.zw2 zo).sz.mono zo) (HZ.out.fBB.sz.mono zo) (by have:=bN _ (elW q-((1:Int):Rat)) LAA.out;omega) (by have:=LBB.out;omega) zo) fun x104 w104 hE G104=>?_
  refine mV8 hE ?_ G97 G94 HX HT B6 B8 B11 R1;clear G97 G94 HX HT B6 B8 B11 R1;intro G97 G94 HX HT B6 B8 B11 R1;refine mV2 hE ?_ A85 GW;clear A85 GW;intro A85 GW;have hs_w104:=hE.size;replace b_B11:=bX3 B11;replace b_A85:=bX3 A85;obtain ⟨ha,hn,hc⟩:=x104;have LE:=Hi (show bW w102.heap.size w104 ⟨ha,hn,hc⟩ (elE 4 e q) from G104.out);clear G104;clear GS;simp only [SH.v]
  go_wp2_with fail
  refine cM (df ⟨vn,va,vl,vc,vb,vm,vd⟩ ⟨on,oa,ol,oc,ob,om,od⟩ _ _ _ GW.out R1.out) fun x108 w108 hE G108=>?_
  refine mV7 hE ?_ G97 G94 HX HT B6 B8 LE;clear G97 G94 HX HT B6 B8 LE;intro G97 G94 HX HT B6 B8 LE;have hs_w108:=hE.size
  go_wp2_with fail
  refine cM (eL ⟨fa,fn,fc⟩ x108 _ _ (8*K+39) (3*K+6) _ G94.out.can G108.out HZ.out.fAA.sz HZ.out.zw1 (by have:=LAA.out;omega) zo zo) fun x109 w109 hE G109=>?_
  refine mV6 hE ?_ G97 HX HT B6 B8 LE;clear G97 HX HT B6 B8 LE;intro G97 HX HT B6 B8 LE;have hs_w109:=hE.size;have GS:=Hi G109.out.can.lin;clear G109;clear G108
  go_wp2_with fail
  refine cM (qV x109 ⟨ga,gn,gc⟩ _ _ (11*K+45) _ GS.out.can G97.out.can ((HZ.out.fAA.scP HZ.out.zw1 zo).sz.mono zo) (HZ.out.fBB.sz.mono zo) (by have:=bN _ (elW q+((1:Int):Rat)) LAA.out;omega) (by have:=LBB.out;omega) zo) fun x111 w111 hE G111=>?_
  refine mV5 hE ?_ HX HT B6 B8 LE;clear HX HT B6 B8 LE;intro HX HT B6 B8 LE;have hs_w111:=hE.size;replace b_B6:=bX3 B6;obtain ⟨ka,kn,kc⟩:=x111;have LO:=Hi (show bW w109.heap.size w111 ⟨ka,kn,kc⟩ (elO 4 e q) from G111.out);clear G111;clear GS;clear G94;clear G97;clear LA;clear LB;simp only [SH.v]
  go_upto_region 21 with fail
  refine wpG 9 (fun opIx=>match opIx with
   | 2=>.spec (SH) (default) (SH.v) (fun x w'=>aD w' x (aq (elE 4 e q) (elE 4 e q)))
   | 5=>.spec (SH) (default) (SH.v) (fun x w'=>aD w' x (aq (elO 4 e q) (elO 4 e q)))
   | 7=>.spec (SH) (default) (SH.v) (fun x w'=>aD w' x (scP (aq (elO 4 e q) (elO 4 e q)) r))
   | 8=>.spec (SH) (default) (SH.v) (fun x w'=>bW w111.heap.size w' x (elD 4 e r q))
   | _=>.quiet) (fun|7=>[5]|8=>[2,7]|_=>[]) fun w0 he0 hz0 hc0 hf0=>?_
  refine wps he0 (fun w1 hW hG=>?_) fun x120=>?_
  ·exact spc [.slice ha hn hc,.slice ha hn hc] Tryz.func100 ((ks ⟨ha,hn,hc⟩ ⟨ha,hn,hc⟩ _ _ (19*K+85) (19*K+85) _ (LE.out.can.ext hW) (LE.out.can.ext hW) HZ.out.fE HZ.out.fE (by have:=LE0.out;omega) (by have:=LE0.out;omega) zo).weak (fun _ _ _ h=>h.can))
  refine qZ ?_;refine wps he0 (fun w1 hW hG=>?_) fun x121=>?_
  ·exact spc [.slice ka kn kc,.slice ka kn kc] Tryz.func100 ((ks ⟨ka,kn,kc⟩ ⟨ka,kn,kc⟩ _ _ (19*K+85) (19*K+85) _ (LO.out.can.ext hW) (LO.out.can.ext hW) HZ.out.fO HZ.out.fO (by have:=LO0.out;omega) (by have:=LO0.out;omega) zo).weak (fun _ _ _ h=>h.can))
  refine qZ ?_;refine wps he0 (fun w1 hW hG=>?_) fun x122=>?_
  ·have g121:=gS (hG 5 dZ);exact spc [x121.v,RH.v ⟨tn,ta,tl,tc,tb,tm,td⟩] Tryz.func102 ((nf x121 ⟨tn,ta,tl,tc,tb,tm,td⟩ _ r (38*K+171) K _ g121 (HT.out.ext hW) HZ.out.fOO.sz ZR.out (by have:=LOO.out;omega) zo zo).weak (fun _ _ _ h=>h.can))
  refine qZ ?_;refine wps he0 (fun w1 hW hG=>?_) fun x123=>?_
  ·have g120:=gS (hG 2 dZ);have g122:=gS (hG 7 dZ);exact spc [x120.v,x122.v] Tryz.func119 ((jR x120 x122 _ _ (39*K+171) _ g120 g122 (HZ.out.fEE.sz.mono zo) HZ.out.fR.sz (by have:=LEE.out;omega) (by have:=LR.out;omega) zo).weak (fun _ _ _ h=>h.mono hW.size))
  refine qZ ?_;refine aj ?_;intro w120 hI;have hE:=he0.out.trans hI.ext;have G123:=gT (hI.facts 8);clear hI he0 hz0 hc0 hf0;refine mV3 hE ?_ HX B8 LE;clear HX B8 LE;intro HX B8 LE;simp only [pD];obtain ⟨da,dn,dc⟩:=x123;have LD:=Hi G123.out;clear G123;simp only [SH.v]
  go_wp2_with fail
  refine cM (aL 1 _ dZ dZ) fun x124 w124 hE G124=>?_
  refine mV4 hE ?_ HX B8 LE LD;clear HX B8 LE LD;intro HX B8 LE LD;replace b_B8:=bX3 B8;clear LO;obtain ⟨in1,ia,il,ic,ib,im,id1⟩:=x124;go_wp2;refine bh (F:=fun W=>bodyPost _ _ _ _ _ W) B8.out rfl ?_;intro w130 T;replace HX:=Hi (T.ext HX.out zo);replace B8:=Hi (T.bx);replace LE:=Hi (LE.out.put T zo);replace LD:=Hi (LD.out.put T zo);replace G124:=Hi (G124.out.keep T.keep);clear T;replace b_B8:=bX3 B8;exact nXa (v:=PE (⟨⟨in1,ia,il,ic,ib,im,id1⟩,⟨ha,hn,hc⟩,0,⟨da,dn,dc⟩⟩,0)) (by simp [results,Tryz.results55,go_sem,b_B8.1]) rfl ⟨(⟨⟨in1,ia,il,ic,ib,im,id1⟩,⟨ha,hn,hc⟩,0,⟨da,dn,dc⟩⟩,0),rfl,HX.out,rfl,fun h=>absurd rfl h,fun _=>⟨G124.out,LE.out.can,rfl,LD.out.can⟩⟩
end Go.Proofs.YtafgmcimcbhhjaaGreat
