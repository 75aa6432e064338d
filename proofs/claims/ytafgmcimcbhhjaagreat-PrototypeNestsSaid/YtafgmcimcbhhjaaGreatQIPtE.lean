/- Package prototype: Elliptic of order 2 and 4. -/
import Derived.Test.YtafgmcimcbhhjaaGreatQIK17
set_option linter.unusedVariables false
namespace Go.Proofs.YtafgmcimcbhhjaaGreat
open Go.RowKit Go.Front Go.Num Stab
attribute [local go_sem] XW.cell XW.frozen
theorem dT(x:SH)(t:RH)(l:List Rat)(c:Rat)(S T:Nat)(w:World)(h:aG w x l)(k:av w t c)(zl:SzL S l)(zc:Sz T c)(hn:l.length≤200)(hS:S≤8000000)(hT:T≤8000000) :
  aq 102 [x.v,t.v] w SH.v (fun s w'=>bR w.heap.size w' s (scP l c)):=by
 obtain ⟨ao,n,cap⟩:=x;have e1:=h.len;simp only at e1;exact br ao n cap l t c w (h.raw zl (by omega)) (k.raw zc (by omega)) (by omega) (zl.mono (by omega)) (zc.mono (by omega))
theorem kG(x:SH)(t:RH)(l:List Rat)(c:Rat)(S T:Nat)(w:World)(h:aG w x l)(k:aW w t c)(zl:SzL S l)(zc:Sz T c)(hn:l.length≤200)(hS:S≤8000000)(hT:T≤8000000) :
  aq 102 [x.v,t.v] w SH.v (fun s w'=>bR w.heap.size w' s (scP l c)):=by
 obtain ⟨ao,n,cap⟩:=x;have e1:=h.len;simp only at e1;exact br ao n cap l t c w (h.raw zl (by omega)) k (by omega) (zl.mono (by omega)) (zc.mono (by omega))
theorem ik(s t:SH)(p q:List Rat)(S:Nat)(w:World)(h:aG w s p)(k:aG w t q)(zp:SzL S p)(zq:SzL S q)(hn:p.length≤200)(hm:q.length≤200)(hS:S≤8000000) :
  aq 119 [s.v,t.v] w SH.v (fun s w'=>bR w.heap.size w' s (bf p q)):=by
 obtain ⟨ao,n,c⟩:=s;obtain ⟨bo,m,d⟩:=t;have e1:=h.len;have e2:=k.len;simp only at e1 e2;exact dP ao bo n c m d p q w (h.raw zp (by omega)) (k.raw zq (by omega)) (by omega) (by omega) (zp.mono (by omega)) (zq.mono (by omega))
set_option maxRecDepth 8000 in
set_option maxHeartbeats 16000000 in
theorem sv(n:Nat)(s t u:RH)(e r q:Rat)(K:Nat)(w:World)(hn:n=2∨n=4)(hs:aW w s e)(ht:aW w t r)(hu:aW w u q)(ze:Sz K e)(zr:Sz K r)(zq:Sz K q)(hK:1≤K)(hK2:K≤1000)(he:dm (n:Nat) e r=0)(h0:0<q)(h1:q<1) :
  aq 55 [.int .i64 (n:Nat),s.v,t.v,u.v] w PE (MkP 0 ((1:Int):Rat) (elE n e q) 0 (elD n e r q)):=by
 obtain ⟨sn,sa,sl,sc,sb,sm,sd⟩:=s;obtain ⟨tn,ta,tl,tc,tb,tm,td⟩:=t;obtain ⟨un,ua,ul,uc,ub,um,ud⟩:=u;have HX:=Hi (Ext.refl w);have HS:=Hi hs;have HT:=Hi ht;have HU:=Hi hu;have ZE:=Hi ze;have ZR:=Hi zr;have ZQ:=Hi zq;have HW:=Hi he;have HZ:=Hi (BS (r:=r) hn ze zr zq hK);have Z1:Hid (Sz 1 ((1:Int):Rat)):=Hi (Sz.int (by decide));have Z2:Hid (Sz 1 ((2:Int):Rat)):=Hi (Sz.int (by decide));obtain ⟨-,-,-,k4,-⟩:=gQ he;have KD:=Hi (gS k4);have HC1:Hid (¬ dl q 0≤0):=Hi (fun h=>by rw [gj] at h;grind);have HC2:Hid (¬ 0≤dl q ((1:Int):Rat)):=Hi (fun h=>by rw [mf] at h;have e1:((1:Int):Rat)=1:=rfl;rw [e1] at h;grind);have HDW:Hid (((1:Int):Rat)+q*q≠0):=Hi (by have e1:((1:Int):Rat)=1:=rfl;rw [e1];have:=Rat.mul_pos h0 h0;grind);obtain ⟨lA,lB⟩:=Sg.elAB_len (elT n q) e;obtain ⟨lE,lO⟩:=Sg.elEO_len (n:=n) e q;have LA0:=Hi lA;have LB0:=Hi lB;have LE0:=Hi lE;have LO0:=Hi lO;have LD0:=Hi (Sg.elD_len (n:=n) e r q);have LAA:Hid ((ar (elA (elT n q) e) (elA (elT n q) e)).length≤3):=Hi (aS lA lA);have LBB:Hid ((ar (elB (elT n q) e) (elB (elT n q) e)).length≤3):=Hi (aS lB lB);have LEE:Hid ((ar (elE n e q) (elE n e q)).length≤5):=Hi (aS lE lE);have LOO:Hid ((ar (elO n e q) (elO n e q)).length≤5):=Hi (aS lO lO);have LS1:=Hi (cN (bE miQ 1) ((elT n q+((1:Int):Rat))*aM e) (i9 1));have LS2:=Hi (cN (bE miQ 1) ((elT n q-((1:Int):Rat))*aM e) (i9 1));have LR:=Hi (cN (ar (elO n e q) (elO n e q)) r LOO.out);have LP1:=Hi (i8 1);have LM1:=Hi (i9 1);have FP1:=Hi nT;have FM1:=Hi n8;clear hs ht hu ze zr zq he h0 h1 k4 lA lB lE lO;unfold aq;go_enter Tryz.func55,Tryz.ntmps55
 go_upto_region 1 with fail
 refine Co ?_;intro w1 hE B5 B6 B7 B8 hz_w1 hr_w1;refine mV4 hE ?_ HX HS HT HU;clear HX HS HT HU;intro HX HS HT HU;have hs_w1:=hE.size;clear hE;replace b_B5:=bX3 B5;replace b_B6:=bX3 B6;replace b_B7:=bX3 B7;replace b_B8:=bX3 B8;rcases hn with rfl|rfl
 ·skip
  go_wp2_with fail
  refine cM (eJ (2:Nat) ⟨sn,sa,sl,sc,sb,sm,sd⟩ ⟨tn,ta,tl,tc,tb,tm,td⟩ e r _ HS.out HT.out) fun x33 w33 hE _=>?_
  refine mV8 hE ?_ B5 B6 B7 B8 HX HS HT HU;clear B5 B6 B7 B8 HX HS HT HU;intro B5 B6 B7 B8 HX HS HT HU;have hs_w33:=hE.size;clear hE;replace b_B5:=bX3 B5;replace b_B6:=bX3 B6;replace b_B7:=bX3 B7;replace b_B8:=bX3 B8;rw [HW.out]
  go_wp2_with fail
  refine cM (aI 1 _ (by decide) (by decide)) fun x38 w38 hE G38=>?_
  refine mV8 hE ?_ B5 B6 B7 B8 HX HS HT HU;clear B5 B6 B7 B8 HX HS HT HU;intro B5 B6 B7 B8 HX HS HT HU;have hs_w38:=hE.size;clear hE;replace b_B5:=bX3 B5;replace b_B6:=bX3 B6;replace b_B7:=bX3 B7;replace b_B8:=bX3 B8
  go_upto_region 7 with fail
  refine nmA ?_;intro w39 hE B11 hz_w39 hr_w39;refine mV8 hE ?_ G38 B5 B6 B7 B8 HX HS HT;clear G38 B5 B6 B7 B8 HX HS HT;intro G38 B5 B6 B7 B8 HX HS HT;replace HU:=mV hE HU;have hs_w39:=hE.size;clear hE;replace b_B5:=bX3 B5;replace b_B6:=bX3 B6;replace b_B7:=bX3 B7;replace b_B8:=bX3 B8;replace b_B11:=bX3 B11;have R1:Hid (aW w39 x38 ((1:Int):Rat)):=Hi (G38.out.raw Z1.out (by decide));obtain ⟨on,oa,ol,oc,ob,om,od⟩:=x38;clear G38
  go_wp2_with fail
  refine cM (cE ⟨un,ua,ul,uc,ub,um,ud⟩ q _ HU.out) fun x40 w40 hE _=>?_
  refine mV8 hE ?_ B11 B5 B6 B7 B8 HX HS HT;clear B11 B5 B6 B7 B8 HX HS HT;intro B11 B5 B6 B7 B8 HX HS HT;refine mV2 hE ?_ HU R1;clear HU R1;intro HU R1;have hs_w40:=hE.size;clear hE;replace b_B5:=bX3 B5;replace b_B6:=bX3 B6;replace b_B7:=bX3 B7;replace b_B8:=bX3 B8;replace b_B11:=bX3 B11;obtain ⟨c1,hc1⟩:∃ c,c=dl q 0:=⟨_,rfl⟩;have hn1:¬ c1≤0:=by have a:=HC1.out;omega
  rw [←hc1];clear hc1
  go_wp2_with fail
  refine cM (dA ⟨un,ua,ul,uc,ub,um,ud⟩ ⟨on,oa,ol,oc,ob,om,od⟩ q ((1:Int):Rat) _ HU.out R1.out) fun x45 w45 hE _=>?_
  refine mV8 hE ?_ B11 B5 B6 B7 B8 HX HS HT;clear B11 B5 B6 B7 B8 HX HS HT;intro B11 B5 B6 B7 B8 HX HS HT;refine mV2 hE ?_ HU R1;clear HU R1;intro HU R1;have hs_w45:=hE.size;clear hE;replace b_B5:=bX3 B5;replace b_B6:=bX3 B6;replace b_B7:=bX3 B7;replace b_B8:=bX3 B8;replace b_B11:=bX3 B11;obtain ⟨c2,hc2⟩:∃ c,c=dl q ((1:Int):Rat):=⟨_,rfl⟩;have hn2:¬ 0≤c2:=by have a:=HC2.out;omega
  rw [←hc2];clear hc2;have hd1:decide (c1≤0)=false:=decide_eq_false (by omega);have hd2:decide (0≤c2)=false:=decide_eq_false (by omega);have hd3:decide (c2 ≥ 0)=false:=decide_eq_false (by omega)
  go_wp2_with fail
  refine cM (bX ⟨un,ua,ul,uc,ub,um,ud⟩ q _ HU.out) fun x50 w50 hE G50=>?_
  refine mV8 hE ?_ B11 B5 B6 B7 B8 HX HS HT;clear B11 B5 B6 B7 B8 HX HS HT;intro B11 B5 B6 B7 B8 HX HS HT;refine mV2 hE ?_ HU R1;clear HU R1;intro HU R1;have hs_w50:=hE.size;clear hE;replace b_B5:=bX3 B5;replace b_B6:=bX3 B6;replace b_B7:=bX3 B7;replace b_B8:=bX3 B8;replace b_B11:=bX3 B11
  go_upto_region 10 with fail
  refine nmA ?_;intro w51 hE B12 hz_w51 hr_w51;refine mV8 hE ?_ G50 B11 B5 B6 B7 B8 HX HS;clear G50 B11 B5 B6 B7 B8 HX HS;intro G50 B11 B5 B6 B7 B8 HX HS;refine mV3 hE ?_ HT HU R1;clear HT HU R1;intro HT HU R1;have hs_w51:=hE.size;clear hE;replace b_B5:=bX3 B5;replace b_B6:=bX3 B6;replace b_B7:=bX3 B7;replace b_B8:=bX3 B8;replace b_B11:=bX3 B11;replace b_B12:=bX3 B12;have GT:Hid (aW w51 x50 (elT 2 q)):=Hi (by have h:=G50.out.raw ZQ.out (by omega);exact h);obtain ⟨pn,pa,pl,pc,pb,pm,pd⟩:=x50;clear G50
  go_wp2_with fail
  refine cM (fG ⟨sn,sa,sl,sc,sb,sm,sd⟩ e K _ HS.out ZE.out hK (by omega) KD.out) fun x57 w57 hE G57=>?_
  refine mV8 hE ?_ B12 B11 B5 B6 B7 B8 HX HS;clear B12 B11 B5 B6 B7 B8 HX HS;intro B12 B11 B5 B6 B7 B8 HX HS;refine mV4 hE ?_ HT HU R1 GT;clear HT HU R1 GT;intro HT HU R1 GT;have hs_w57:=hE.size;clear hE;replace b_B5:=bX3 B5;replace b_B6:=bX3 B6;replace b_B7:=bX3 B7;replace b_B8:=bX3 B8;replace b_B11:=bX3 B11;replace b_B12:=bX3 B12
  go_upto_region 13 with fail
  refine nmA ?_;intro w58 hE B13 hz_w58 hr_w58;refine mV8 hE ?_ G57 B12 B11 B5 B6 B7 B8 HX;clear G57 B12 B11 B5 B6 B7 B8 HX;intro G57 B12 B11 B5 B6 B7 B8 HX;refine mV5 hE ?_ HS HT HU R1 GT;clear HS HT HU R1 GT;intro HS HT HU R1 GT;have hs_w58:=hE.size;clear hE;replace b_B5:=bX3 B5;replace b_B6:=bX3 B6;replace b_B7:=bX3 B7;replace b_B8:=bX3 B8;replace b_B11:=bX3 B11;replace b_B12:=bX3 B12;replace b_B13:=bX3 B13;have GC:Hid (aW w58 x57 (aM e)):=Hi (by have h:=G57.out.raw HZ.out.zC (by omega);exact h);obtain ⟨wn,wa,wl,wc,wb,wm,wd⟩:=x57;clear G57;refine wpG 9 (fun opIx=>match opIx with
   | 0=>.spec (SH) (default) (SH.v) (fun x w'=>aG w' x (bE miQ 1))
   | 3=>.spec RH default RH.v (fun s w'=>av w' s ((elT 2 q+((1:Int):Rat))))
   | 5=>.spec RH default RH.v (fun s w'=>av w' s ((elT 2 q+((1:Int):Rat))*aM e))
   | 6=>.spec (SH) (default) (SH.v) (fun x w'=>aG w' x (scP (bE miQ 1) ((elT 2 q+((1:Int):Rat))*aM e)))
   | 7=>.spec (SH) (default) (SH.v) (fun x w'=>aG w' x (bE plQ 1))
   | 8=>.spec (SH) (default) (SH.v) (fun x w'=>bR w1.heap.size w' x (elA (elT 2 q) e))
   | _=>.quiet) (fun|5=>[3]|6=>[0,5]|8=>[6,7]|_=>[]) fun w0 he0 hz0 hc0 hf0=>?_
  refine wps he0.out rfl rfl (fun w1 hW hG=>?_) fun x60=>?_
  ·exact spc [.int .i64 (1:Nat)] Tryz.func117 (cS 1 _ (by decide))
  refine qZ ?_;refine wps he0.out rfl rfl (fun w1 hW hG=>?_) fun x61=>?_
  ·exact spc [RH.v ⟨pn,pa,pl,pc,pb,pm,pd⟩,RH.v ⟨on,oa,ol,oc,ob,om,od⟩] Tryz.func118 (cK ⟨pn,pa,pl,pc,pb,pm,pd⟩ ⟨on,oa,ol,oc,ob,om,od⟩ (elT 2 q) ((1:Int):Rat) _ (GT.out.ext hW) (R1.out.ext hW))
  refine qZ ?_;refine wps he0.out rfl rfl (fun w1 hW hG=>?_) fun x62=>?_
  ·have g61:=(hG 3 (by decide):aw _ _).get fun _ e g=>g.ext e
   exact spc [x61.v,RH.v ⟨wn,wa,wl,wc,wb,wm,wd⟩] Tryz.func85 (aP x61 ⟨wn,wa,wl,wc,wb,wm,wd⟩ _ (aM e) _ (g61.raw HZ.out.z1 (by omega)) (GC.out.ext hW))
  refine qZ ?_;refine wps he0.out rfl rfl (fun w1 hW hG=>?_) fun x63=>?_
  ·have g60:=(hG 0 (by decide):aw _ _).get fun _ e g=>g.ext e
   have g62:=(hG 5 (by decide):aw _ _).get fun _ e g=>g.ext e
   exact spc [x60.v,x62.v] Tryz.func102 ((dT x60 x62 _ _ 5 (4*K+8) _ g60 g62 FM1.out.sz HZ.out.c1 (by have:=LM1.out;omega) (by decide) (by omega)).weak (fun _ _ _ h=>h.can))
  refine qZ ?_;refine wps he0.out rfl rfl (fun w1 hW hG=>?_) fun x64=>?_
  ·exact spc [.int .i64 (1:Nat)] Tryz.func101 (cZ 1 _ (by decide))
  refine qZ ?_;refine wps he0.out rfl rfl (fun w1 hW hG=>?_) fun x65=>?_
  ·have g63:=(hG 6 (by decide):aw _ _).get fun _ e g=>g.ext e
   have g64:=(hG 7 (by decide):aw _ _).get fun _ e g=>g.ext e
   exact spc [x63.v,x64.v] Tryz.func116 ((nQ x63 x64 _ _ (4*K+13) _ g63 g64 HZ.out.f1.sz (FP1.out.sz.mono (by omega)) (by have:=LS1.out;omega) (by have:=LP1.out;omega) (by omega)).weak (fun _ _ _ h=>h.mono (by have:=hW.size;omega)))
  refine qZ ?_;refine aj ?_;intro w66 hI;have hE:=he0.out.trans hI.ext;have G60:=gT (hI.facts 0);have G61:=gT (hI.facts 3);have G62:=gT (hI.facts 5);have G63:=gT (hI.facts 6);have G64:=gT (hI.facts 7);have G65:=gT (hI.facts 8);clear hI he0 hz0 hc0 hf0;refine mV8 hE ?_ B13 B12 B11 B5 B6 B7 B8 HX;clear B13 B12 B11 B5 B6 B7 B8 HX;intro B13 B12 B11 B5 B6 B7 B8 HX;refine mV6 hE ?_ HS HT HU R1 GT GC;clear HS HT HU R1 GT GC;intro HS HT HU R1 GT GC;have hs_w66:=hE.size;clear hE;replace b_B5:=bX3 B5;replace b_B6:=bX3 B6;replace b_B7:=bX3 B7;replace b_B8:=bX3 B8;replace b_B11:=bX3 B11;replace b_B12:=bX3 B12;replace b_B13:=bX3 B13;simp only [pD];obtain ⟨xa,xn,xc⟩:=x65;have LA:Hid (LIn w66 ⟨xa,xn,xc⟩ (elA (elT 2 q) e) w1.heap.size w66.heap.size):=Hi G65.out;clear G60 G63 G64 G65;clear G61;clear G62;simp only [SH.v]
  go_upto_region 14 with fail
  refine wpG 9 (fun opIx=>match opIx with
   | 0=>.spec (SH) (default) (SH.v) (fun x w'=>aG w' x (bE miQ 1))
   | 3=>.spec RH default RH.v (fun s w'=>av w' s ((elT 2 q-((1:Int):Rat))))
   | 5=>.spec RH default RH.v (fun s w'=>av w' s ((elT 2 q-((1:Int):Rat))*aM e))
   | 6=>.spec (SH) (default) (SH.v) (fun x w'=>aG w' x (scP (bE miQ 1) ((elT 2 q-((1:Int):Rat))*aM e)))
   | 7=>.spec (SH) (default) (SH.v) (fun x w'=>aG w' x (bE plQ 1))
   | 8=>.spec (SH) (default) (SH.v) (fun x w'=>bR w1.heap.size w' x (elB (elT 2 q) e))
   | _=>.quiet) (fun|5=>[3]|6=>[0,5]|8=>[6,7]|_=>[]) fun w0 he0 hz0 hc0 hf0=>?_
  refine wps he0.out rfl rfl (fun w1 hW hG=>?_) fun x70=>?_
  ·exact spc [.int .i64 (1:Nat)] Tryz.func117 (cS 1 _ (by decide))
  refine qZ ?_;refine wps he0.out rfl rfl (fun w1 hW hG=>?_) fun x71=>?_
  ·exact spc [RH.v ⟨pn,pa,pl,pc,pb,pm,pd⟩,RH.v ⟨on,oa,ol,oc,ob,om,od⟩] Tryz.func120 (cY ⟨pn,pa,pl,pc,pb,pm,pd⟩ ⟨on,oa,ol,oc,ob,om,od⟩ (elT 2 q) ((1:Int):Rat) _ (GT.out.ext hW) (R1.out.ext hW))
  refine qZ ?_;refine wps he0.out rfl rfl (fun w1 hW hG=>?_) fun x72=>?_
  ·have g71:=(hG 3 (by decide):aw _ _).get fun _ e g=>g.ext e
   exact spc [x71.v,RH.v ⟨wn,wa,wl,wc,wb,wm,wd⟩] Tryz.func85 (aP x71 ⟨wn,wa,wl,wc,wb,wm,wd⟩ _ (aM e) _ (g71.raw HZ.out.z2 (by omega)) (GC.out.ext hW))
  refine qZ ?_;refine wps he0.out rfl rfl (fun w1 hW hG=>?_) fun x73=>?_
  ·have g70:=(hG 0 (by decide):aw _ _).get fun _ e g=>g.ext e
   have g72:=(hG 5 (by decide):aw _ _).get fun _ e g=>g.ext e
   exact spc [x70.v,x72.v] Tryz.func102 ((dT x70 x72 _ _ 5 (4*K+8) _ g70 g72 FM1.out.sz HZ.out.c2 (by have:=LM1.out;omega) (by decide) (by omega)).weak (fun _ _ _ h=>h.can))
  refine qZ ?_;refine wps he0.out rfl rfl (fun w1 hW hG=>?_) fun x74=>?_
  ·exact spc [.int .i64 (1:Nat)] Tryz.func101 (cZ 1 _ (by decide))
  refine qZ ?_;refine wps he0.out rfl rfl (fun w1 hW hG=>?_) fun x75=>?_
  ·have g73:=(hG 6 (by decide):aw _ _).get fun _ e g=>g.ext e
   have g74:=(hG 7 (by decide):aw _ _).get fun _ e g=>g.ext e
   exact spc [x73.v,x74.v] Tryz.func119 ((ik x73 x74 _ _ (4*K+13) _ g73 g74 HZ.out.f2.sz (FP1.out.sz.mono (by omega)) (by have:=LS2.out;omega) (by have:=LP1.out;omega) (by omega)).weak (fun _ _ _ h=>h.mono (by have:=hW.size;omega)))
  refine qZ ?_;refine aj ?_;intro w76 hI;have hE:=he0.out.trans hI.ext;have G70:=gT (hI.facts 0);have G71:=gT (hI.facts 3);have G72:=gT (hI.facts 5);have G73:=gT (hI.facts 6);have G74:=gT (hI.facts 7);have G75:=gT (hI.facts 8);clear hI he0 hz0 hc0 hf0;refine mV8 hE ?_ B13 B12 B11 B5 B6 B7 B8 HX;clear B13 B12 B11 B5 B6 B7 B8 HX;intro B13 B12 B11 B5 B6 B7 B8 HX;refine mV7 hE ?_ HS HT HU R1 GT LA GC;clear HS HT HU R1 GT LA GC;intro HS HT HU R1 GT LA GC;have hs_w76:=hE.size;clear hE;replace b_B5:=bX3 B5;replace b_B6:=bX3 B6;replace b_B7:=bX3 B7;replace b_B8:=bX3 B8;replace b_B11:=bX3 B11;replace b_B12:=bX3 B12;replace b_B13:=bX3 B13;simp only [pD];obtain ⟨ya,yn,yc⟩:=x75;have LB:Hid (LIn w76 ⟨ya,yn,yc⟩ (elB (elT 2 q) e) w1.heap.size w76.heap.size):=Hi G75.out;clear G70 G73 G74 G75;clear G71;clear G72;simp only [SH.v]
  go_upto_region 15 with fail
  have LE:Hid (LIn w76 ⟨ya,yn,yc⟩ (elE 2 e q) w1.heap.size w76.heap.size):=Hi LB.out;have LO:Hid (LIn w76 ⟨xa,xn,xc⟩ (elO 2 e q) w1.heap.size w66.heap.size):=Hi LA.out;clear LA;clear LB
  go_upto_region 21 with fail
  refine wpG 9 (fun opIx=>match opIx with
   | 2=>.spec (SH) (default) (SH.v) (fun x w'=>aG w' x (ar (elE 2 e q) (elE 2 e q)))
   | 5=>.spec (SH) (default) (SH.v) (fun x w'=>aG w' x (ar (elO 2 e q) (elO 2 e q)))
   | 7=>.spec (SH) (default) (SH.v) (fun x w'=>aG w' x (scP (ar (elO 2 e q) (elO 2 e q)) r))
   | 8=>.spec (SH) (default) (SH.v) (fun x w'=>bR w76.heap.size w' x (elD 2 e r q))
   | _=>.quiet) (fun|7=>[5]|8=>[2,7]|_=>[]) fun w0 he0 hz0 hc0 hf0=>?_
  refine wps he0.out rfl rfl (fun w1 hW hG=>?_) fun x120=>?_
  ·exact spc [.slice ya yn yc,.slice ya yn yc] Tryz.func100 ((iT ⟨ya,yn,yc⟩ ⟨ya,yn,yc⟩ _ _ (19*K+85) (19*K+85) _ (LE.out.can.ext hW) (LE.out.can.ext hW) HZ.out.fE HZ.out.fE (by have:=LE0.out;omega) (by have:=LE0.out;omega) (by omega)).weak (fun _ _ _ h=>h.can))
  refine qZ ?_;refine wps he0.out rfl rfl (fun w1 hW hG=>?_) fun x121=>?_
  ·exact spc [.slice xa xn xc,.slice xa xn xc] Tryz.func100 ((iT ⟨xa,xn,xc⟩ ⟨xa,xn,xc⟩ _ _ (19*K+85) (19*K+85) _ (LO.out.can.ext hW) (LO.out.can.ext hW) HZ.out.fO HZ.out.fO (by have:=LO0.out;omega) (by have:=LO0.out;omega) (by omega)).weak (fun _ _ _ h=>h.can))
  refine qZ ?_;refine wps he0.out rfl rfl (fun w1 hW hG=>?_) fun x122=>?_
  ·have g121:=(hG 5 (by decide):aw _ _).get fun _ e g=>g.ext e
   exact spc [x121.v,RH.v ⟨tn,ta,tl,tc,tb,tm,td⟩] Tryz.func102 ((kG x121 ⟨tn,ta,tl,tc,tb,tm,td⟩ _ r (38*K+171) K _ g121 (HT.out.ext hW) HZ.out.fOO.sz ZR.out (by have:=LOO.out;omega) (by omega) (by omega)).weak (fun _ _ _ h=>h.can))
  refine qZ ?_;refine wps he0.out rfl rfl (fun w1 hW hG=>?_) fun x123=>?_
  ·have g120:=(hG 2 (by decide):aw _ _).get fun _ e g=>g.ext e
   have g122:=(hG 7 (by decide):aw _ _).get fun _ e g=>g.ext e
   exact spc [x120.v,x122.v] Tryz.func119 ((ik x120 x122 _ _ (39*K+171) _ g120 g122 (HZ.out.fEE.sz.mono (by omega)) HZ.out.fR.sz (by have:=LEE.out;omega) (by have:=LR.out;omega) (by omega)).weak (fun _ _ _ h=>h.mono hW.size))
  refine qZ ?_;refine aj ?_;intro w120 hI;have hE:=he0.out.trans hI.ext;have G120:=gT (hI.facts 2);have G121:=gT (hI.facts 5);have G122:=gT (hI.facts 7);have G123:=gT (hI.facts 8);clear hI he0 hz0 hc0 hf0;refine mV8 hE ?_ B13 B12 B11 B5 B6 B7 B8 HX;clear B13 B12 B11 B5 B6 B7 B8 HX;intro B13 B12 B11 B5 B6 B7 B8 HX;refine mV8 hE ?_ HS HU R1 GT GC LE LO HT;clear HS HU R1 GT GC LE LO HT;intro HS HU R1 GT GC LE LO HT;have hs_w120:=hE.size;clear hE;replace b_B5:=bX3 B5;replace b_B6:=bX3 B6;replace b_B7:=bX3 B7;replace b_B8:=bX3 B8;replace b_B11:=bX3 B11;replace b_B12:=bX3 B12;replace b_B13:=bX3 B13;simp only [pD];obtain ⟨da,dn,dc⟩:=x123;have LD:=Hi G123.out;clear G120 G121 G122 G123;simp only [SH.v]
  go_wp2_with fail
  refine cM (aI 1 _ (by decide) (by decide)) fun x124 w124 hE G124=>?_
  refine mV8 hE ?_ B13 B12 B11 B5 B6 B7 B8 HX;clear B13 B12 B11 B5 B6 B7 B8 HX;intro B13 B12 B11 B5 B6 B7 B8 HX;refine mV8 hE ?_ HS HU R1 GT GC LE LO HT;clear HS HU R1 GT GC LE LO HT;intro HS HU R1 GT GC LE LO HT;replace LD:=mV hE LD;have hs_w124:=hE.size;clear hE;replace b_B5:=bX3 B5;replace b_B6:=bX3 B6;replace b_B7:=bX3 B7;replace b_B8:=bX3 B8;replace b_B11:=bX3 B11;replace b_B12:=bX3 B12;replace b_B13:=bX3 B13;clear LO;obtain ⟨in1,ia,il,ic,ib,im,id1⟩:=x124;go_wp2;refine bY (F:=fun W=>bodyPost _ _ _ _ _ W) B8.out rfl ?_;intro w130 T;replace HX:=Hi (T.ext HX.out (by omega));replace HS:=Hi (HS.out.keep T.keep);replace HT:=Hi (HT.out.keep T.keep);replace HU:=Hi (HU.out.keep T.keep);replace B5:=Hi (T.rest _ _ (by omega) B5.out);replace B6:=Hi (T.rest _ _ (by omega) B6.out);replace B7:=Hi (T.rest _ _ (by omega) B7.out);replace B8:=Hi (T.bx);replace B11:=Hi (T.rest _ _ (by omega) B11.out);replace R1:=Hi (R1.out.keep T.keep);replace B12:=Hi (T.rest _ _ (by omega) B12.out);replace GT:=Hi (GT.out.keep T.keep);replace B13:=Hi (T.rest _ _ (by omega) B13.out);replace GC:=Hi (GC.out.keep T.keep);replace LE:=Hi (LE.out.put T (by omega));replace LD:=Hi (LD.out.put T (by omega));replace G124:=Hi (G124.out.keep T.keep);have hs_w130:=nle T.size;have hr_w130:=nle T.size.symm;clear T;replace b_B5:=bX3 B5;replace b_B6:=bX3 B6;replace b_B7:=bX3 B7;replace b_B8:=bX3 B8;replace b_B11:=bX3 B11;replace b_B12:=bX3 B12;replace b_B13:=bX3 B13;exact bodyPost_ret (v:=PE (⟨⟨in1,ia,il,ic,ib,im,id1⟩,⟨ya,yn,yc⟩,0,⟨da,dn,dc⟩⟩,0)) (by simp [results,Tryz.results55,go_sem,b_B8.1]) rfl ⟨(⟨⟨in1,ia,il,ic,ib,im,id1⟩,⟨ya,yn,yc⟩,0,⟨da,dn,dc⟩⟩,0),rfl,HX.out,rfl,fun h=>absurd rfl h,fun _=>⟨G124.out,LE.out.can,rfl,LD.out.can⟩⟩
 ·skip
  go_wp2_with fail
  refine cM (eJ (4:Nat) ⟨sn,sa,sl,sc,sb,sm,sd⟩ ⟨tn,ta,tl,tc,tb,tm,td⟩ e r _ HS.out HT.out) fun x33 w33 hE _=>?_
  refine mV8 hE ?_ HX HS HT HU B5 B6 B7 B8;clear HX HS HT HU B5 B6 B7 B8;intro HX HS HT HU B5 B6 B7 B8;have hs_w33:=hE.size;clear hE;replace b_B5:=bX3 B5;replace b_B6:=bX3 B6;replace b_B7:=bX3 B7;replace b_B8:=bX3 B8;rw [HW.out]
  go_wp2_with fail
  refine cM (aI 1 _ (by decide) (by decide)) fun x38 w38 hE G38=>?_
  refine mV8 hE ?_ HX HS HT HU B5 B6 B7 B8;clear HX HS HT HU B5 B6 B7 B8;intro HX HS HT HU B5 B6 B7 B8;have hs_w38:=hE.size;clear hE;replace b_B5:=bX3 B5;replace b_B6:=bX3 B6;replace b_B7:=bX3 B7;replace b_B8:=bX3 B8
  go_upto_region 7 with fail
  refine nmA ?_;intro w39 hE B11 hz_w39 hr_w39;refine mV8 hE ?_ G38 HX HS HT HU B5 B6 B7;clear G38 HX HS HT HU B5 B6 B7;intro G38 HX HS HT HU B5 B6 B7;replace B8:=mV hE B8;have hs_w39:=hE.size;clear hE;replace b_B5:=bX3 B5;replace b_B6:=bX3 B6;replace b_B7:=bX3 B7;replace b_B8:=bX3 B8;replace b_B11:=bX3 B11;have R1:Hid (aW w39 x38 ((1:Int):Rat)):=Hi (G38.out.raw Z1.out (by decide));obtain ⟨on,oa,ol,oc,ob,om,od⟩:=x38;clear G38
  go_wp2_with fail
  refine cM (cE ⟨un,ua,ul,uc,ub,um,ud⟩ q _ HU.out) fun x40 w40 hE _=>?_
  refine mV8 hE ?_ B11 HX HS HT HU B5 B6 B7;clear B11 HX HS HT HU B5 B6 B7;intro B11 HX HS HT HU B5 B6 B7;refine mV2 hE ?_ B8 R1;clear B8 R1;intro B8 R1;have hs_w40:=hE.size;clear hE;replace b_B5:=bX3 B5;replace b_B6:=bX3 B6;replace b_B7:=bX3 B7;replace b_B8:=bX3 B8;replace b_B11:=bX3 B11;obtain ⟨c1,hc1⟩:∃ c,c=dl q 0:=⟨_,rfl⟩;have hn1:¬ c1≤0:=by have a:=HC1.out;omega
  rw [←hc1];clear hc1
  go_wp2_with fail
  refine cM (dA ⟨un,ua,ul,uc,ub,um,ud⟩ ⟨on,oa,ol,oc,ob,om,od⟩ q ((1:Int):Rat) _ HU.out R1.out) fun x45 w45 hE _=>?_
  refine mV8 hE ?_ B11 HX HS HT HU B5 B6 B7;clear B11 HX HS HT HU B5 B6 B7;intro B11 HX HS HT HU B5 B6 B7;refine mV2 hE ?_ B8 R1;clear B8 R1;intro B8 R1;have hs_w45:=hE.size;clear hE;replace b_B5:=bX3 B5;replace b_B6:=bX3 B6;replace b_B7:=bX3 B7;replace b_B8:=bX3 B8;replace b_B11:=bX3 B11;obtain ⟨c2,hc2⟩:∃ c,c=dl q ((1:Int):Rat):=⟨_,rfl⟩;have hn2:¬ 0≤c2:=by have a:=HC2.out;omega
  rw [←hc2];clear hc2;have hd1:decide (c1≤0)=false:=decide_eq_false (by omega);have hd2:decide (0≤c2)=false:=decide_eq_false (by omega);have hd3:decide (c2 ≥ 0)=false:=decide_eq_false (by omega)
  go_wp2_with fail
  refine cM (bX ⟨un,ua,ul,uc,ub,um,ud⟩ q _ HU.out) fun x50 w50 hE G50=>?_
  refine mV8 hE ?_ B11 HX HS HT HU B5 B6 B7;clear B11 HX HS HT HU B5 B6 B7;intro B11 HX HS HT HU B5 B6 B7;refine mV2 hE ?_ B8 R1;clear B8 R1;intro B8 R1;have hs_w50:=hE.size;clear hE;replace b_B5:=bX3 B5;replace b_B6:=bX3 B6;replace b_B7:=bX3 B7;replace b_B8:=bX3 B8;replace b_B11:=bX3 B11
  go_upto_region 10 with fail
  refine nmA ?_;intro w51 hE B12 hz_w51 hr_w51;refine mV8 hE ?_ G50 B11 HX HS HT HU B5 B6;clear G50 B11 HX HS HT HU B5 B6;intro G50 B11 HX HS HT HU B5 B6;refine mV3 hE ?_ B7 B8 R1;clear B7 B8 R1;intro B7 B8 R1;have hs_w51:=hE.size;clear hE;replace b_B5:=bX3 B5;replace b_B6:=bX3 B6;replace b_B7:=bX3 B7;replace b_B8:=bX3 B8;replace b_B11:=bX3 B11;replace b_B12:=bX3 B12
  go_wp2_with fail
  refine cM (aP ⟨un,ua,ul,uc,ub,um,ud⟩ ⟨un,ua,ul,uc,ub,um,ud⟩ q q _ HU.out HU.out) fun x55 w55 hE G55=>?_
  refine mV8 hE ?_ B12 G50 B11 HX HS HT HU B5;clear B12 G50 B11 HX HS HT HU B5;intro B12 G50 B11 HX HS HT HU B5;refine mV4 hE ?_ B6 B7 B8 R1;clear B6 B7 B8 R1;intro B6 B7 B8 R1;have hs_w55:=hE.size;clear hE;replace b_B5:=bX3 B5;replace b_B6:=bX3 B6;replace b_B7:=bX3 B7;replace b_B8:=bX3 B8;replace b_B11:=bX3 B11;replace b_B12:=bX3 B12
  go_upto_region 12 with fail
  refine aY B12.out rfl ?_;intro w56 T;replace HX:=Hi (T.ext HX.out (by omega));replace HS:=Hi (HS.out.keep T.keep);replace HT:=Hi (HT.out.keep T.keep);replace HU:=Hi (HU.out.keep T.keep);replace B5:=Hi (T.rest _ _ (by omega) B5.out);replace B6:=Hi (T.rest _ _ (by omega) B6.out);replace B7:=Hi (T.rest _ _ (by omega) B7.out);replace B8:=Hi (T.rest _ _ (by omega) B8.out);replace B11:=Hi (T.rest _ _ (by omega) B11.out);replace R1:=Hi (R1.out.keep T.keep);replace G50:=Hi (G50.out.keep T.keep);replace B12:=Hi (T.bx);replace G55:=Hi (G55.out.keep T.keep);have hs_w56:=nle T.size;have hr_w56:=nle T.size.symm;clear T;replace b_B5:=bX3 B5;replace b_B6:=bX3 B6;replace b_B7:=bX3 B7;replace b_B8:=bX3 B8;replace b_B11:=bX3 B11;replace b_B12:=bX3 B12;have GT:Hid (aW w56 x55 (elT 4 q)):=Hi (by have h:=G55.out.raw (ZQ.out.mul ZQ.out) (by omega);exact h);obtain ⟨pn,pa,pl,pc,pb,pm,pd⟩:=x55;clear G50;clear G55
  go_wp2_with fail
  refine cM (fG ⟨sn,sa,sl,sc,sb,sm,sd⟩ e K _ HS.out ZE.out hK (by omega) KD.out) fun x57 w57 hE G57=>?_
  refine mV8 hE ?_ HX HS HT HU B5 B6 B7 B8;clear HX HS HT HU B5 B6 B7 B8;intro HX HS HT HU B5 B6 B7 B8;refine mV4 hE ?_ B11 R1 B12 GT;clear B11 R1 B12 GT;intro B11 R1 B12 GT;have hs_w57:=hE.size;clear hE;replace b_B5:=bX3 B5;replace b_B6:=bX3 B6;replace b_B7:=bX3 B7;replace b_B8:=bX3 B8;replace b_B11:=bX3 B11;replace b_B12:=bX3 B12
  go_upto_region 13 with fail
  refine nmA ?_;intro w58 hE B13 hz_w58 hr_w58;refine mV8 hE ?_ G57 HX HS HT HU B5 B6 B7;clear G57 HX HS HT HU B5 B6 B7;intro G57 HX HS HT HU B5 B6 B7;refine mV5 hE ?_ B8 B11 R1 B12 GT;clear B8 B11 R1 B12 GT;intro B8 B11 R1 B12 GT;have hs_w58:=hE.size;clear hE;replace b_B5:=bX3 B5;replace b_B6:=bX3 B6;replace b_B7:=bX3 B7;replace b_B8:=bX3 B8;replace b_B11:=bX3 B11;replace b_B12:=bX3 B12;replace b_B13:=bX3 B13;have GC:Hid (aW w58 x57 (aM e)):=Hi (by have h:=G57.out.raw HZ.out.zC (by omega);exact h);obtain ⟨wn,wa,wl,wc,wb,wm,wd⟩:=x57;clear G57;refine wpG 9 (fun opIx=>match opIx with
   | 0=>.spec (SH) (default) (SH.v) (fun x w'=>aG w' x (bE miQ 1))
   | 3=>.spec RH default RH.v (fun s w'=>av w' s ((elT 4 q+((1:Int):Rat))))
   | 5=>.spec RH default RH.v (fun s w'=>av w' s ((elT 4 q+((1:Int):Rat))*aM e))
   | 6=>.spec (SH) (default) (SH.v) (fun x w'=>aG w' x (scP (bE miQ 1) ((elT 4 q+((1:Int):Rat))*aM e)))
   | 7=>.spec (SH) (default) (SH.v) (fun x w'=>aG w' x (bE plQ 1))
   | 8=>.spec (SH) (default) (SH.v) (fun x w'=>bR w1.heap.size w' x (elA (elT 4 q) e))
   | _=>.quiet) (fun|5=>[3]|6=>[0,5]|8=>[6,7]|_=>[]) fun w0 he0 hz0 hc0 hf0=>?_
  refine wps he0.out rfl rfl (fun w1 hW hG=>?_) fun x60=>?_
  ·exact spc [.int .i64 (1:Nat)] Tryz.func117 (cS 1 _ (by decide))
  refine qZ ?_;refine wps he0.out rfl rfl (fun w1 hW hG=>?_) fun x61=>?_
  ·exact spc [RH.v ⟨pn,pa,pl,pc,pb,pm,pd⟩,RH.v ⟨on,oa,ol,oc,ob,om,od⟩] Tryz.func118 (cK ⟨pn,pa,pl,pc,pb,pm,pd⟩ ⟨on,oa,ol,oc,ob,om,od⟩ (elT 4 q) ((1:Int):Rat) _ (GT.out.ext hW) (R1.out.ext hW))
  refine qZ ?_;refine wps he0.out rfl rfl (fun w1 hW hG=>?_) fun x62=>?_
  ·have g61:=(hG 3 (by decide):aw _ _).get fun _ e g=>g.ext e
   exact spc [x61.v,RH.v ⟨wn,wa,wl,wc,wb,wm,wd⟩] Tryz.func85 (aP x61 ⟨wn,wa,wl,wc,wb,wm,wd⟩ _ (aM e) _ (g61.raw HZ.out.z1 (by omega)) (GC.out.ext hW))
  refine qZ ?_;refine wps he0.out rfl rfl (fun w1 hW hG=>?_) fun x63=>?_
  ·have g60:=(hG 0 (by decide):aw _ _).get fun _ e g=>g.ext e
   have g62:=(hG 5 (by decide):aw _ _).get fun _ e g=>g.ext e
   exact spc [x60.v,x62.v] Tryz.func102 ((dT x60 x62 _ _ 5 (4*K+8) _ g60 g62 FM1.out.sz HZ.out.c1 (by have:=LM1.out;omega) (by decide) (by omega)).weak (fun _ _ _ h=>h.can))
  refine qZ ?_;refine wps he0.out rfl rfl (fun w1 hW hG=>?_) fun x64=>?_
  ·exact spc [.int .i64 (1:Nat)] Tryz.func101 (cZ 1 _ (by decide))
  refine qZ ?_;refine wps he0.out rfl rfl (fun w1 hW hG=>?_) fun x65=>?_
  ·have g63:=(hG 6 (by decide):aw _ _).get fun _ e g=>g.ext e
   have g64:=(hG 7 (by decide):aw _ _).get fun _ e g=>g.ext e
   exact spc [x63.v,x64.v] Tryz.func116 ((nQ x63 x64 _ _ (4*K+13) _ g63 g64 HZ.out.f1.sz (FP1.out.sz.mono (by omega)) (by have:=LS1.out;omega) (by have:=LP1.out;omega) (by omega)).weak (fun _ _ _ h=>h.mono (by have:=hW.size;omega)))
  refine qZ ?_;refine aj ?_;intro w66 hI;have hE:=he0.out.trans hI.ext;have G60:=gT (hI.facts 0);have G61:=gT (hI.facts 3);have G62:=gT (hI.facts 5);have G63:=gT (hI.facts 6);have G64:=gT (hI.facts 7);have G65:=gT (hI.facts 8);clear hI he0 hz0 hc0 hf0;refine mV8 hE ?_ B13 HX HS HT HU B5 B6 B7;clear B13 HX HS HT HU B5 B6 B7;intro B13 HX HS HT HU B5 B6 B7;refine mV6 hE ?_ B8 B11 R1 B12 GT GC;clear B8 B11 R1 B12 GT GC;intro B8 B11 R1 B12 GT GC;have hs_w66:=hE.size;clear hE;replace b_B5:=bX3 B5;replace b_B6:=bX3 B6;replace b_B7:=bX3 B7;replace b_B8:=bX3 B8;replace b_B11:=bX3 B11;replace b_B12:=bX3 B12;replace b_B13:=bX3 B13;simp only [pD];obtain ⟨xa,xn,xc⟩:=x65;have LA:Hid (LIn w66 ⟨xa,xn,xc⟩ (elA (elT 4 q) e) w1.heap.size w66.heap.size):=Hi G65.out;clear G60 G63 G64 G65;clear G61;clear G62;simp only [SH.v]
  go_upto_region 14 with fail
  refine wpG 9 (fun opIx=>match opIx with
   | 0=>.spec (SH) (default) (SH.v) (fun x w'=>aG w' x (bE miQ 1))
   | 3=>.spec RH default RH.v (fun s w'=>av w' s ((elT 4 q-((1:Int):Rat))))
   | 5=>.spec RH default RH.v (fun s w'=>av w' s ((elT 4 q-((1:Int):Rat))*aM e))
   | 6=>.spec (SH) (default) (SH.v) (fun x w'=>aG w' x (scP (bE miQ 1) ((elT 4 q-((1:Int):Rat))*aM e)))
   | 7=>.spec (SH) (default) (SH.v) (fun x w'=>aG w' x (bE plQ 1))
   | 8=>.spec (SH) (default) (SH.v) (fun x w'=>bR w1.heap.size w' x (elB (elT 4 q) e))
   | _=>.quiet) (fun|5=>[3]|6=>[0,5]|8=>[6,7]|_=>[]) fun w0 he0 hz0 hc0 hf0=>?_
  refine wps he0.out rfl rfl (fun w1 hW hG=>?_) fun x70=>?_
  ·exact spc [.int .i64 (1:Nat)] Tryz.func117 (cS 1 _ (by decide))
  refine qZ ?_;refine wps he0.out rfl rfl (fun w1 hW hG=>?_) fun x71=>?_
  ·exact spc [RH.v ⟨pn,pa,pl,pc,pb,pm,pd⟩,RH.v ⟨on,oa,ol,oc,ob,om,od⟩] Tryz.func120 (cY ⟨pn,pa,pl,pc,pb,pm,pd⟩ ⟨on,oa,ol,oc,ob,om,od⟩ (elT 4 q) ((1:Int):Rat) _ (GT.out.ext hW) (R1.out.ext hW))
  refine qZ ?_;refine wps he0.out rfl rfl (fun w1 hW hG=>?_) fun x72=>?_
  ·have g71:=(hG 3 (by decide):aw _ _).get fun _ e g=>g.ext e
   exact spc [x71.v,RH.v ⟨wn,wa,wl,wc,wb,wm,wd⟩] Tryz.func85 (aP x71 ⟨wn,wa,wl,wc,wb,wm,wd⟩ _ (aM e) _ (g71.raw HZ.out.z2 (by omega)) (GC.out.ext hW))
  refine qZ ?_;refine wps he0.out rfl rfl (fun w1 hW hG=>?_) fun x73=>?_
  ·have g70:=(hG 0 (by decide):aw _ _).get fun _ e g=>g.ext e
   have g72:=(hG 5 (by decide):aw _ _).get fun _ e g=>g.ext e
   exact spc [x70.v,x72.v] Tryz.func102 ((dT x70 x72 _ _ 5 (4*K+8) _ g70 g72 FM1.out.sz HZ.out.c2 (by have:=LM1.out;omega) (by decide) (by omega)).weak (fun _ _ _ h=>h.can))
  refine qZ ?_;refine wps he0.out rfl rfl (fun w1 hW hG=>?_) fun x74=>?_
  ·exact spc [.int .i64 (1:Nat)] Tryz.func101 (cZ 1 _ (by decide))
  refine qZ ?_;refine wps he0.out rfl rfl (fun w1 hW hG=>?_) fun x75=>?_
  ·have g73:=(hG 6 (by decide):aw _ _).get fun _ e g=>g.ext e
   have g74:=(hG 7 (by decide):aw _ _).get fun _ e g=>g.ext e
   exact spc [x73.v,x74.v] Tryz.func119 ((ik x73 x74 _ _ (4*K+13) _ g73 g74 HZ.out.f2.sz (FP1.out.sz.mono (by omega)) (by have:=LS2.out;omega) (by have:=LP1.out;omega) (by omega)).weak (fun _ _ _ h=>h.mono (by have:=hW.size;omega)))
  refine qZ ?_;refine aj ?_;intro w76 hI;have hE:=he0.out.trans hI.ext;have G70:=gT (hI.facts 0);have G71:=gT (hI.facts 3);have G72:=gT (hI.facts 5);have G73:=gT (hI.facts 6);have G74:=gT (hI.facts 7);have G75:=gT (hI.facts 8);clear hI he0 hz0 hc0 hf0;refine mV8 hE ?_ B13 HX HS HT HU B5 B6 B7;clear B13 HX HS HT HU B5 B6 B7;intro B13 HX HS HT HU B5 B6 B7;refine mV7 hE ?_ B8 B11 R1 B12 GT LA GC;clear B8 B11 R1 B12 GT LA GC;intro B8 B11 R1 B12 GT LA GC;have hs_w76:=hE.size;clear hE;replace b_B5:=bX3 B5;replace b_B6:=bX3 B6;replace b_B7:=bX3 B7;replace b_B8:=bX3 B8;replace b_B11:=bX3 B11;replace b_B12:=bX3 B12;replace b_B13:=bX3 B13;simp only [pD];obtain ⟨ya,yn,yc⟩:=x75;have LB:Hid (LIn w76 ⟨ya,yn,yc⟩ (elB (elT 4 q) e) w1.heap.size w76.heap.size):=Hi G75.out;clear G70 G73 G74 G75;clear G71;clear G72;simp only [SH.v]
  go_upto_region 15 with fail
  go_upto_region 17 with fail
  refine aQ [(13,11)] _ (by simp only [gy,kk,List.push_toArray,List.cons_append,List.nil_append];exact rfl) (by intro c a d v w h;cases d <;> exact h) 13 (fun opIx=>match opIx with
   | 0=>.spec RH default RH.v (fun s w'=>av w' s (((2:Int):Rat)))
   | 2=>.spec RH default RH.v (fun s w'=>av w' s (((2:Int):Rat)*q))
   | 6=>.spec RH default RH.v (fun s w'=>av w' s (q*q))
   | 7=>.spec RH default RH.v (fun s w'=>av w' s (((1:Int):Rat)+q*q))
   | 8=>.spec (RH) (default) (fun s=>.tuple #[s.v,.int .i64 0]) (fun x w'=>av w' x (elW q))
   | 12=>.alloc 34 #[.bool false,.slice none 0 0,.slice none 0 0]
   | _=>.quiet) (fun|2=>[0]|7=>[6]|8=>[2,7]|_=>[]) (by kernel_rfl) (by kernel_rfl) (by kernel_rfl) (fun w0 he0 hz0 hc0 hf0=>?_)
  replace he0:=Hi he0;simp only [pT];refine qQ ?_;refine wps he0.out rfl rfl (fun w1 hW hG=>?_) fun x80=>?_
  ·exact spc [.int .i64 2] Tryz.func84 (aI 2 _ (by decide) (by decide))
  refine qZ ?_;refine wps he0.out rfl rfl (fun w1 hW hG=>?_) fun x81=>?_
  ·have g80:=(hG 0 (by decide):aw _ _).get fun _ e g=>g.ext e
   exact spc [x80.v,RH.v ⟨un,ua,ul,uc,ub,um,ud⟩] Tryz.func85 (aP x80 ⟨un,ua,ul,uc,ub,um,ud⟩ ((2:Int):Rat) q _ (g80.raw Z2.out (by decide)) (HU.out.ext hW))
  refine qZ ?_;refine wps he0.out rfl rfl (fun w1 hW hG=>?_) fun x82=>?_
  ·exact spc [RH.v ⟨un,ua,ul,uc,ub,um,ud⟩,RH.v ⟨un,ua,ul,uc,ub,um,ud⟩] Tryz.func85 (aP ⟨un,ua,ul,uc,ub,um,ud⟩ ⟨un,ua,ul,uc,ub,um,ud⟩ q q _ (HU.out.ext hW) (HU.out.ext hW))
  refine qZ ?_;refine wps he0.out rfl rfl (fun w1 hW hG=>?_) fun x83=>?_
  ·have g82:=(hG 6 (by decide):aw _ _).get fun _ e g=>g.ext e
   exact spc [RH.v ⟨on,oa,ol,oc,ob,om,od⟩,x82.v] Tryz.func118 (cK ⟨on,oa,ol,oc,ob,om,od⟩ x82 ((1:Int):Rat) (q*q) _ (R1.out.ext hW) (g82.raw (ZQ.out.mul ZQ.out) (by omega)))
  refine qZ ?_;refine wps he0.out rfl rfl (fun w1 hW hG=>?_) fun x84=>?_
  ·have g81:=(hG 2 (by decide):aw _ _).get fun _ e g=>g.ext e
   have g83:=(hG 7 (by decide):aw _ _).get fun _ e g=>g.ext e
   exact spc [x81.v,x83.v] Tryz.func121 (bO x81 x83 (((2:Int):Rat)*q) (((1:Int):Rat)+q*q) _ (g81.raw (Z2.out.mul ZQ.out) (by omega)) (g83.raw (Z1.out.add (ZQ.out.mul ZQ.out)) (by omega)) HDW.out)
  refine qZ ?_;refine aH rfl rfl (fun w=>by simp [execOp,go_sem,ptr]) (fun b85 hb85 hl85=>?_);refine qZ ?_;refine aj ?_;intro w80 hI;have hE:=he0.out.trans hI.ext;have G80:=gT (hI.facts 0);have G81:=gT (hI.facts 2);have G82:=gT (hI.facts 6);have G83:=gT (hI.facts 7);have G84:=gT (hI.facts 8);have A85:Hid (w80.heap[b85]?=some (.cells #[.bool false,.slice none 0 0,.slice none 0 0] 34 (0,0))):=hI.facts 12;rw [hz0] at hl85;clear hI he0 hz0 hc0 hf0;refine mV8 hE ?_ B13 HX HS HT B5 B6 B7 B8;clear B13 HX HS HT B5 B6 B7 B8;intro B13 HX HS HT B5 B6 B7 B8;refine mV8 hE ?_ B11 R1 B12 GT LA GC LB HU;clear B11 R1 B12 GT LA GC LB HU;intro B11 R1 B12 GT LA GC LB HU;have hs_w80:=hE.size;clear hE;replace b_B5:=bX3 B5;replace b_B6:=bX3 B6;replace b_B7:=bX3 B7;replace b_B8:=bX3 B8;replace b_B11:=bX3 B11;replace b_B12:=bX3 B12;replace b_B13:=bX3 B13;replace b_A85:=bX3 A85;simp only [pD,ptr];have GW:=Hi (G84.out.raw HZ.out.zw (by omega));clear G84;clear G80;clear G81;clear G82;clear G83;obtain ⟨vn,va,vl,vc,vb,vm,vd⟩:=x84
  go_upto_region 18 with fail
  refine aY A85.out rfl ?_;intro w85 T;replace HX:=Hi (T.ext HX.out (by omega));replace HS:=Hi (HS.out.keep T.keep);replace HT:=Hi (HT.out.keep T.keep);replace HU:=Hi (HU.out.keep T.keep);replace B5:=Hi (T.rest _ _ (by omega) B5.out);replace B6:=Hi (T.rest _ _ (by omega) B6.out);replace B7:=Hi (T.rest _ _ (by omega) B7.out);replace B8:=Hi (T.rest _ _ (by omega) B8.out);replace B11:=Hi (T.rest _ _ (by omega) B11.out);replace R1:=Hi (R1.out.keep T.keep);replace B12:=Hi (T.rest _ _ (by omega) B12.out);replace GT:=Hi (GT.out.keep T.keep);replace B13:=Hi (T.rest _ _ (by omega) B13.out);replace GC:=Hi (GC.out.keep T.keep);replace LA:=Hi (LA.out.put T (by omega));replace LB:=Hi (LB.out.put T (by omega));replace A85:=Hi (T.bx);replace GW:=Hi (GW.out.keep T.keep);have hs_w85:=nle T.size;have hr_w85:=nle T.size.symm;clear T;replace b_B5:=bX3 B5;replace b_B6:=bX3 B6;replace b_B7:=bX3 B7;replace b_B8:=bX3 B8;replace b_B11:=bX3 B11;replace b_B12:=bX3 B12;replace b_B13:=bX3 B13;replace b_A85:=bX3 A85
  go_wp2_with fail
  refine cM (iT ⟨xa,xn,xc⟩ ⟨xa,xn,xc⟩ _ _ (4*K+19) (4*K+19) _ LA.out.can LA.out.can HZ.out.fA HZ.out.fA (by have:=LA0.out;omega) (by have:=LA0.out;omega) (by omega)) fun x94 w94 hE G94=>?_
  refine mV8 hE ?_ HX HS HT HU B5 B6 B7 B8;clear HX HS HT HU B5 B6 B7 B8;intro HX HS HT HU B5 B6 B7 B8;refine mV8 hE ?_ B11 R1 B12 GT B13 GC LA LB;clear B11 R1 B12 GT B13 GC LA LB;intro B11 R1 B12 GT B13 GC LA LB;refine mV2 hE ?_ A85 GW;clear A85 GW;intro A85 GW;have hs_w94:=hE.size;clear hE;replace b_B5:=bX3 B5;replace b_B6:=bX3 B6;replace b_B7:=bX3 B7;replace b_B8:=bX3 B8;replace b_B11:=bX3 B11;replace b_B12:=bX3 B12;replace b_B13:=bX3 B13;replace b_A85:=bX3 A85;obtain ⟨fa,fn,fc⟩:=x94;simp only [SH.v]
  go_wp2_with fail
  refine cM (iT ⟨ya,yn,yc⟩ ⟨ya,yn,yc⟩ _ _ (4*K+19) (4*K+19) _ LB.out.can LB.out.can HZ.out.fB HZ.out.fB (by have:=LB0.out;omega) (by have:=LB0.out;omega) (by omega)) fun x97 w97 hE G97=>?_
  refine mV8 hE ?_ G94 HX HS HT HU B5 B6 B7;clear G94 HX HS HT HU B5 B6 B7;intro G94 HX HS HT HU B5 B6 B7;refine mV8 hE ?_ B8 B11 R1 B12 GT B13 GC LA;clear B8 B11 R1 B12 GT B13 GC LA;intro B8 B11 R1 B12 GT B13 GC LA;refine mV3 hE ?_ LB A85 GW;clear LB A85 GW;intro LB A85 GW;have hs_w97:=hE.size;clear hE;replace b_B5:=bX3 B5;replace b_B6:=bX3 B6;replace b_B7:=bX3 B7;replace b_B8:=bX3 B8;replace b_B11:=bX3 B11;replace b_B12:=bX3 B12;replace b_B13:=bX3 B13;replace b_A85:=bX3 A85;obtain ⟨ga,gn,gc⟩:=x97;simp only [SH.v]
  go_wp2_with fail
  refine cM (cY ⟨vn,va,vl,vc,vb,vm,vd⟩ ⟨on,oa,ol,oc,ob,om,od⟩ _ _ _ GW.out R1.out) fun x101 w101 hE G101=>?_
  refine mV8 hE ?_ G97 G94 HX HS HT HU B5 B6;clear G97 G94 HX HS HT HU B5 B6;intro G97 G94 HX HS HT HU B5 B6;refine mV8 hE ?_ B7 B8 B11 R1 B12 GT B13 GC;clear B7 B8 B11 R1 B12 GT B13 GC;intro B7 B8 B11 R1 B12 GT B13 GC;refine mV4 hE ?_ LA LB A85 GW;clear LA LB A85 GW;intro LA LB A85 GW;have hs_w101:=hE.size;clear hE;replace b_B5:=bX3 B5;replace b_B6:=bX3 B6;replace b_B7:=bX3 B7;replace b_B8:=bX3 B8;replace b_B11:=bX3 B11;replace b_B12:=bX3 B12;replace b_B13:=bX3 B13;replace b_A85:=bX3 A85
  go_wp2_with fail
  refine cM (dT ⟨fa,fn,fc⟩ x101 _ _ (8*K+39) (3*K+6) _ G94.out.can G101.out HZ.out.fAA.sz HZ.out.zw2 (by have:=LAA.out;omega) (by omega) (by omega)) fun x102 w102 hE G102=>?_
  refine mV8 hE ?_ G101 G97 G94 HX HS HT HU B5;clear G101 G97 G94 HX HS HT HU B5;intro G101 G97 G94 HX HS HT HU B5;refine mV8 hE ?_ B6 B7 B8 B11 R1 B12 GT B13;clear B6 B7 B8 B11 R1 B12 GT B13;intro B6 B7 B8 B11 R1 B12 GT B13;refine mV5 hE ?_ GC LA LB A85 GW;clear GC LA LB A85 GW;intro GC LA LB A85 GW;have hs_w102:=hE.size;clear hE;replace b_B5:=bX3 B5;replace b_B6:=bX3 B6;replace b_B7:=bX3 B7;replace b_B8:=bX3 B8;replace b_B11:=bX3 B11;replace b_B12:=bX3 B12;replace b_B13:=bX3 B13;replace b_A85:=bX3 A85;have GS:=Hi G102.out.can.lin;clear G102;clear G101
  go_wp2_with fail
  refine cM (ik x102 ⟨ga,gn,gc⟩ _ _ (11*K+45) _ GS.out.can G97.out.can ((HZ.out.fAA.scP HZ.out.zw2 (by omega)).sz.mono (by omega)) (HZ.out.fBB.sz.mono (by omega)) (by have:=cN _ (elW q-((1:Int):Rat)) LAA.out;omega) (by have:=LBB.out;omega) (by omega)) fun x104 w104 hE G104=>?_
  refine mV8 hE ?_ G97 G94 HX HS HT HU B5 B6;clear G97 G94 HX HS HT HU B5 B6;intro G97 G94 HX HS HT HU B5 B6;refine mV8 hE ?_ B7 B8 B11 R1 B12 GT B13 GC;clear B7 B8 B11 R1 B12 GT B13 GC;intro B7 B8 B11 R1 B12 GT B13 GC;refine mV5 hE ?_ LA LB A85 GW GS;clear LA LB A85 GW GS;intro LA LB A85 GW GS;have hs_w104:=hE.size;clear hE;replace b_B5:=bX3 B5;replace b_B6:=bX3 B6;replace b_B7:=bX3 B7;replace b_B8:=bX3 B8;replace b_B11:=bX3 B11;replace b_B12:=bX3 B12;replace b_B13:=bX3 B13;replace b_A85:=bX3 A85;obtain ⟨ha,hn,hc⟩:=x104;have LE:=Hi (show bR w102.heap.size w104 ⟨ha,hn,hc⟩ (elE 4 e q) from G104.out);clear G104;clear GS;simp only [SH.v]
  go_wp2_with fail
  refine cM (cK ⟨vn,va,vl,vc,vb,vm,vd⟩ ⟨on,oa,ol,oc,ob,om,od⟩ _ _ _ GW.out R1.out) fun x108 w108 hE G108=>?_
  refine mV8 hE ?_ G97 G94 HX HS HT HU B5 B6;clear G97 G94 HX HS HT HU B5 B6;intro G97 G94 HX HS HT HU B5 B6;refine mV8 hE ?_ B7 B8 B11 R1 B12 GT B13 GC;clear B7 B8 B11 R1 B12 GT B13 GC;intro B7 B8 B11 R1 B12 GT B13 GC;refine mV5 hE ?_ LA LB A85 GW LE;clear LA LB A85 GW LE;intro LA LB A85 GW LE;have hs_w108:=hE.size;clear hE;replace b_B5:=bX3 B5;replace b_B6:=bX3 B6;replace b_B7:=bX3 B7;replace b_B8:=bX3 B8;replace b_B11:=bX3 B11;replace b_B12:=bX3 B12;replace b_B13:=bX3 B13;replace b_A85:=bX3 A85
  go_wp2_with fail
  refine cM (dT ⟨fa,fn,fc⟩ x108 _ _ (8*K+39) (3*K+6) _ G94.out.can G108.out HZ.out.fAA.sz HZ.out.zw1 (by have:=LAA.out;omega) (by omega) (by omega)) fun x109 w109 hE G109=>?_
  refine mV8 hE ?_ G108 G97 G94 HX HS HT HU B5;clear G108 G97 G94 HX HS HT HU B5;intro G108 G97 G94 HX HS HT HU B5;refine mV8 hE ?_ B6 B7 B8 B11 R1 B12 GT B13;clear B6 B7 B8 B11 R1 B12 GT B13;intro B6 B7 B8 B11 R1 B12 GT B13;refine mV6 hE ?_ GC LA LB A85 GW LE;clear GC LA LB A85 GW LE;intro GC LA LB A85 GW LE;have hs_w109:=hE.size;clear hE;replace b_B5:=bX3 B5;replace b_B6:=bX3 B6;replace b_B7:=bX3 B7;replace b_B8:=bX3 B8;replace b_B11:=bX3 B11;replace b_B12:=bX3 B12;replace b_B13:=bX3 B13;replace b_A85:=bX3 A85;have GS:=Hi G109.out.can.lin;clear G109;clear G108
  go_wp2_with fail
  refine cM (nQ x109 ⟨ga,gn,gc⟩ _ _ (11*K+45) _ GS.out.can G97.out.can ((HZ.out.fAA.scP HZ.out.zw1 (by omega)).sz.mono (by omega)) (HZ.out.fBB.sz.mono (by omega)) (by have:=cN _ (elW q+((1:Int):Rat)) LAA.out;omega) (by have:=LBB.out;omega) (by omega)) fun x111 w111 hE G111=>?_
  refine mV8 hE ?_ G97 G94 HX HS HT HU B5 B6;clear G97 G94 HX HS HT HU B5 B6;intro G97 G94 HX HS HT HU B5 B6;refine mV8 hE ?_ B7 B8 B11 R1 B12 GT B13 GC;clear B7 B8 B11 R1 B12 GT B13 GC;intro B7 B8 B11 R1 B12 GT B13 GC;refine mV6 hE ?_ LA LB A85 GW LE GS;clear LA LB A85 GW LE GS;intro LA LB A85 GW LE GS;have hs_w111:=hE.size;clear hE;replace b_B5:=bX3 B5;replace b_B6:=bX3 B6;replace b_B7:=bX3 B7;replace b_B8:=bX3 B8;replace b_B11:=bX3 B11;replace b_B12:=bX3 B12;replace b_B13:=bX3 B13;replace b_A85:=bX3 A85;obtain ⟨ka,kn,kc⟩:=x111;have LO:=Hi (show bR w109.heap.size w111 ⟨ka,kn,kc⟩ (elO 4 e q) from G111.out);clear G111;clear GS;clear G94;clear G97;clear LA;clear LB;simp only [SH.v]
  go_upto_region 21 with fail
  refine wpG 9 (fun opIx=>match opIx with
   | 2=>.spec (SH) (default) (SH.v) (fun x w'=>aG w' x (ar (elE 4 e q) (elE 4 e q)))
   | 5=>.spec (SH) (default) (SH.v) (fun x w'=>aG w' x (ar (elO 4 e q) (elO 4 e q)))
   | 7=>.spec (SH) (default) (SH.v) (fun x w'=>aG w' x (scP (ar (elO 4 e q) (elO 4 e q)) r))
   | 8=>.spec (SH) (default) (SH.v) (fun x w'=>bR w111.heap.size w' x (elD 4 e r q))
   | _=>.quiet) (fun|7=>[5]|8=>[2,7]|_=>[]) fun w0 he0 hz0 hc0 hf0=>?_
  refine wps he0.out rfl rfl (fun w1 hW hG=>?_) fun x120=>?_
  ·exact spc [.slice ha hn hc,.slice ha hn hc] Tryz.func100 ((iT ⟨ha,hn,hc⟩ ⟨ha,hn,hc⟩ _ _ (19*K+85) (19*K+85) _ (LE.out.can.ext hW) (LE.out.can.ext hW) HZ.out.fE HZ.out.fE (by have:=LE0.out;omega) (by have:=LE0.out;omega) (by omega)).weak (fun _ _ _ h=>h.can))
  refine qZ ?_;refine wps he0.out rfl rfl (fun w1 hW hG=>?_) fun x121=>?_
  ·exact spc [.slice ka kn kc,.slice ka kn kc] Tryz.func100 ((iT ⟨ka,kn,kc⟩ ⟨ka,kn,kc⟩ _ _ (19*K+85) (19*K+85) _ (LO.out.can.ext hW) (LO.out.can.ext hW) HZ.out.fO HZ.out.fO (by have:=LO0.out;omega) (by have:=LO0.out;omega) (by omega)).weak (fun _ _ _ h=>h.can))
  refine qZ ?_;refine wps he0.out rfl rfl (fun w1 hW hG=>?_) fun x122=>?_
  ·have g121:=(hG 5 (by decide):aw _ _).get fun _ e g=>g.ext e
   exact spc [x121.v,RH.v ⟨tn,ta,tl,tc,tb,tm,td⟩] Tryz.func102 ((kG x121 ⟨tn,ta,tl,tc,tb,tm,td⟩ _ r (38*K+171) K _ g121 (HT.out.ext hW) HZ.out.fOO.sz ZR.out (by have:=LOO.out;omega) (by omega) (by omega)).weak (fun _ _ _ h=>h.can))
  refine qZ ?_;refine wps he0.out rfl rfl (fun w1 hW hG=>?_) fun x123=>?_
  ·have g120:=(hG 2 (by decide):aw _ _).get fun _ e g=>g.ext e
   have g122:=(hG 7 (by decide):aw _ _).get fun _ e g=>g.ext e
   exact spc [x120.v,x122.v] Tryz.func119 ((ik x120 x122 _ _ (39*K+171) _ g120 g122 (HZ.out.fEE.sz.mono (by omega)) HZ.out.fR.sz (by have:=LEE.out;omega) (by have:=LR.out;omega) (by omega)).weak (fun _ _ _ h=>h.mono hW.size))
  refine qZ ?_;refine aj ?_;intro w120 hI;have hE:=he0.out.trans hI.ext;have G120:=gT (hI.facts 2);have G121:=gT (hI.facts 5);have G122:=gT (hI.facts 7);have G123:=gT (hI.facts 8);clear hI he0 hz0 hc0 hf0;refine mV8 hE ?_ HX HS HU B5 B6 B7 B8 B11;clear HX HS HU B5 B6 B7 B8 B11;intro HX HS HU B5 B6 B7 B8 B11;refine mV8 hE ?_ R1 B12 GT B13 GC A85 GW LE;clear R1 B12 GT B13 GC A85 GW LE;intro R1 B12 GT B13 GC A85 GW LE;refine mV2 hE ?_ LO HT;clear LO HT;intro LO HT;have hs_w120:=hE.size;clear hE;replace b_B5:=bX3 B5;replace b_B6:=bX3 B6;replace b_B7:=bX3 B7;replace b_B8:=bX3 B8;replace b_B11:=bX3 B11;replace b_B12:=bX3 B12;replace b_B13:=bX3 B13;replace b_A85:=bX3 A85;simp only [pD];obtain ⟨da,dn,dc⟩:=x123;have LD:=Hi G123.out;clear G120 G121 G122 G123;simp only [SH.v]
  go_wp2_with fail
  refine cM (aI 1 _ (by decide) (by decide)) fun x124 w124 hE G124=>?_
  refine mV8 hE ?_ HX HS HU B5 B6 B7 B8 B11;clear HX HS HU B5 B6 B7 B8 B11;intro HX HS HU B5 B6 B7 B8 B11;refine mV8 hE ?_ R1 B12 GT B13 GC A85 GW LE;clear R1 B12 GT B13 GC A85 GW LE;intro R1 B12 GT B13 GC A85 GW LE;refine mV3 hE ?_ LO HT LD;clear LO HT LD;intro LO HT LD;have hs_w124:=hE.size;clear hE;replace b_B5:=bX3 B5;replace b_B6:=bX3 B6;replace b_B7:=bX3 B7;replace b_B8:=bX3 B8;replace b_B11:=bX3 B11;replace b_B12:=bX3 B12;replace b_B13:=bX3 B13;replace b_A85:=bX3 A85;clear LO;obtain ⟨in1,ia,il,ic,ib,im,id1⟩:=x124;go_wp2;refine bY (F:=fun W=>bodyPost _ _ _ _ _ W) B8.out rfl ?_;intro w130 T;replace HX:=Hi (T.ext HX.out (by omega));replace HS:=Hi (HS.out.keep T.keep);replace HT:=Hi (HT.out.keep T.keep);replace HU:=Hi (HU.out.keep T.keep);replace B5:=Hi (T.rest _ _ (by omega) B5.out);replace B6:=Hi (T.rest _ _ (by omega) B6.out);replace B7:=Hi (T.rest _ _ (by omega) B7.out);replace B8:=Hi (T.bx);replace B11:=Hi (T.rest _ _ (by omega) B11.out);replace R1:=Hi (R1.out.keep T.keep);replace B12:=Hi (T.rest _ _ (by omega) B12.out);replace GT:=Hi (GT.out.keep T.keep);replace B13:=Hi (T.rest _ _ (by omega) B13.out);replace GC:=Hi (GC.out.keep T.keep);replace A85:=Hi (T.rest _ _ (by omega) A85.out);replace GW:=Hi (GW.out.keep T.keep);replace LE:=Hi (LE.out.put T (by omega));replace LD:=Hi (LD.out.put T (by omega));replace G124:=Hi (G124.out.keep T.keep);have hs_w130:=nle T.size;have hr_w130:=nle T.size.symm;clear T;replace b_B5:=bX3 B5;replace b_B6:=bX3 B6;replace b_B7:=bX3 B7;replace b_B8:=bX3 B8;replace b_B11:=bX3 B11;replace b_B12:=bX3 B12;replace b_B13:=bX3 B13;replace b_A85:=bX3 A85;exact bodyPost_ret (v:=PE (⟨⟨in1,ia,il,ic,ib,im,id1⟩,⟨ha,hn,hc⟩,0,⟨da,dn,dc⟩⟩,0)) (by simp [results,Tryz.results55,go_sem,b_B8.1]) rfl ⟨(⟨⟨in1,ia,il,ic,ib,im,id1⟩,⟨ha,hn,hc⟩,0,⟨da,dn,dc⟩⟩,0),rfl,HX.out,rfl,fun h=>absurd rfl h,fun _=>⟨G124.out,LE.out.can,rfl,LD.out.can⟩⟩
end Go.Proofs.YtafgmcimcbhhjaaGreat
