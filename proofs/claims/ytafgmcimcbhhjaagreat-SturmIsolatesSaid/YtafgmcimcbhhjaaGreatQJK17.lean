import Derived.Test.YtafgmcimcbhhjaaGreatQJK16
set_option linter.unusedVariables false
set_option maxRecDepth 8000
set_option maxHeartbeats 8000000
namespace Go.Proofs.YtafgmcimcbhhjaaGreat
open Go.RowKit Go.Front Go.Num Stab Sg
attribute [local go_sem] XW.cell XW.frozen
structure PoK (K P:Nat) (p:List Rat):Prop where
 tz:tz p=p
 fr:FrK K p
 sq:FrK K (sqfV p)
 ok:OkC K (2*(P+1)) (ar p)
def A7(n:Nat)(w:World)(x:SH)(l:List Rat):Prop:=bw w x l∧x.n=n
theorem A7.ext{n:Nat}{w w':World}{x:SH}{l:List Rat}(h:A7 n w x l)(he:Ext w w'):A7 n w' x l:=⟨h.1.ext he,h.2⟩
instance {n:Nat} {w w':World} {x:SH} {l:List Rat}:Go.Front.Mv w w' (A7 n w x l) (A7 n w' x l):=⟨fun e h=>A7.ext h e⟩

theorem nk{a b:Rat}:dJ a b=0↔a=b:=by
 unfold dJ;split
 ·constructor
  ·intro h;omega
  ·intro h;subst h;exfalso;grind
 ·split
  ·exact ⟨fun _=>by assumption,fun _=>rfl⟩
  ·constructor
   ·intro h;omega
   ·intro h;contradiction
theorem zf{p:List Rat}(h:p=[]):oM p=3:=by subst h;rfl
theorem zg{p:List Rat}(h:tz p≠[])(hl:p.length≤49):oM p=0:=by unfold oM;rw [if_neg (by have:=ah p;omega),if_neg h]
theorem wl(pa:Option Addr)(P pc:Nat)(p:List Rat)(K:Nat)(s t:RH)(a b:Rat)(T:Nat)(w:World)(h:bw w ⟨pa,P,pc⟩ p)(hP:P≤49)(hk:PoK K P p)(hK:K≤12000000)(hK2:(P+1)*(K / 3)≤25000000)
 (hs:aS w s a)(ht:aS w t b)(za:Sz T a)(zb:Sz T b)(hT:1≤T)(hT3:T≤1000) :
  au 26 [.slice pa P pc,IvV (s,t)] w (fun _:Unit=>.tuple #[.bool (nU p (loV a b) (hiV a b)),.int .i64 0]) (fun _ _=>True):=by
 obtain ⟨sn,sa,sl,sc,sb,sm,sd⟩:=s;obtain ⟨tn,ta,tl,tc,tb,tm,td⟩:=t;have HX:=Hi (Ext.refl w);have LP:=Hi h.lin;have HS:=Hi hs;have HT:=Hi ht;have hlen:=h.len;simp only at hlen;have HKp:=Hi hk.fr;have HKo:=Hi hk.ok;have HTZ:=Hi hk.tz;obtain ⟨S,D,hS,hD,hDW,hF,hSK⟩:=hk.fr;have hSs:=KZ.small hSK;have HF:=Hi hF;have HSz:Hid (SzL K p):=Hi ((hF.sz hS hD hDW).mono zo);have HSW:Hid (∀ y ∈ ar p,Wz S y):=Hi (cY (fun x hx=>hF x (eB hx)) hD);have HSl:Hid ((ar p).length=P):=Hi (by rw [aC,hk.tz,hlen]);have ZA:Hid (Sz T (loV a b)):=Hi (by rcases n4 a b with e|e <;> rw [e] <;> assumption);have ZB:Hid (Sz T (hiV a b)):=Hi (by rcases oh a b with e|e <;> rw [e] <;> assumption);obtain ⟨lo,hlo⟩:∃ lo,lo=loV a b:=⟨_,rfl⟩;obtain ⟨hi,hhi⟩:∃ hi,hi=hiV a b:=⟨_,rfl⟩;rw [←hlo] at ZA;rw [←hhi] at ZB;have HLO:=Hi hlo;have HHI:=Hi hhi;have HLn:=Hi hlen;rw [←hlo,←hhi];clear h hs ht hk za zb hlo hhi hF hSK hlen;unfold au;go_enter Tryz.func26,Tryz.ntmps26
 go_upto_region 1 with fail
 refine nmA ?_;intro w1 hE B3 hz_w1 hr_w1;refine mV4 hE ?_ HX LP HS HT;clear HX LP HS HT;intro HX LP HS HT;have hs_w1:=hE.size;replace b_B3:=bX3 B3
 go_wp2_with fail
 refine cM (iW pa P pc p _ (LP.out.can.raw HSz.out zo)) fun x8 w8 hE _=>?_
 refine mV5 hE ?_ B3 HX LP HS HT;clear B3 HX LP HS HT;intro B3 HX LP HS HT;have hs_w8:=hE.size;replace b_B3:=bX3 B3;by_cases h0:P=0
 case pos =>
  subst h0;have hp:p=[]:=nXj.1 HLn.out;have HE:Hid (nU p lo hi=true):=Hi (by rw [hp];rfl);rw [zf hp];clear hp;go_wp2;exact nXa (v:=.tuple #[.bool (nU p lo hi),.int .i64 0]) (by rw [HE.out];simp [results,Tryz.results26,go_sem]) rfl ⟨(),rfl,HX.out,trivial⟩
 have hp:tz p≠[]:=fun h=>h0 (by rw [←HLn.out,←HTZ.out,h];rfl)
 have H0:=Hi hp;rw [zg hp (by rw [HLn.out];exact hP)];clear hp;have HNV:Hid (nU p lo hi=if Sg.sg (evV (ar p) lo)<0∨Sg.sg (evV (ar p) hi)<0 then false else if lo=hi then true else decide (0<eP (P+1) (ar p) lo) && ! st (P+1) (ar p) lo hi):=Hi (by
  have e:(tz p).length=P:=by rw [HTZ.out,HLn.out]
  unfold nU;rw [if_neg H0.out,e])
 go_wp2_with fail
 refine cM (gE ⟨sn,sa,sl,sc,sb,sm,sd⟩ ⟨tn,ta,tl,tc,tb,tm,td⟩ a b _ HS.out HT.out) fun x14 w14 hE G14=>?_
 refine mV5 hE ?_ B3 HX LP HS HT;clear B3 HX LP HS HT;intro B3 HX LP HS HT;have hs_w14:=hE.size;replace b_B3:=bX3 B3;obtain ⟨⟨ln,la,ll,lc,lb,lm,ld⟩,⟨hn,ha,hl,hc,hb,hm,hd⟩⟩:=x14;rw [←HLO.out,←HHI.out] at G14;have HL:=Hi G14.out.1;have HH:=Hi G14.out.2;clear G14;clear HS;clear HT
 go_upto_region 7 with fail
 refine df B3.out rfl ?_;intro w15 T;replace HX:=Hi (T.ext HX.out zo);replace LP:=Hi (LP.out.put T zo);replace B3:=Hi (T.bx);replace HL:=Hi (HL.out.keep T.keep);replace HH:=Hi (HH.out.keep T.keep);have hs_w15:=nle T.size;have hr_w15:=nle T.size.symm;clear T;replace b_B3:=bX3 B3
 go_wp2_with fail
 refine cM (iS pa P pc p S D _ LP.out.can zo hS zo hD hDW HF.out) fun x16 w16 hE G16=>?_
 refine mV5 hE ?_ HX LP B3 HL HH;clear HX LP B3 HL HH;intro HX LP B3 HL HH;have hs_w16:=hE.size;replace b_B3:=bX3 B3;obtain ⟨Lq,hLq,hLq2,hxq,hrq⟩:=dF.lin G16.out (by have:=HSl.out;omega);rw [HSl.out] at hxq;subst hxq;have HQ:=Hi hrq;clear hrq G16;have HS0:Hid (tz (ar p)≠[]):=Hi (by rw [aX];exact fun h=>H0.out (bH.1 h));obtain ⟨q,hq⟩:∃ q,q=ar p:=⟨_,rfl⟩;have HTQ:Hid (tz q=q):=Hi (by rw [hq];exact aX p);rw [←hq] at HQ HSW HKo HNV HS0 HSl;clear hq;clear LP
 go_wp2_with fail
 refine cM (ku (some ⟨Lq,0,none⟩) P P q ⟨ln,la,ll,lc,lb,lm,ld⟩ lo S T _ HQ.out.can HL.out zo HSW.out ZA.out hT hS zo hT3) fun x20 w20 hE _=>?_
 refine mV5 hE ?_ HX B3 HL HH HQ;clear HX B3 HL HH HQ;intro HX B3 HL HH HQ;have hs_w20:=hE.size;replace b_B3:=bX3 B3;obtain ⟨s1,hs1⟩:∃ s1,s1=Sg.sg (evV q lo):=⟨_,rfl⟩;rw [←hs1] at HNV ⊢;clear hs1;by_cases hn1:s1<0
 case pos =>
  have HE:Hid (nU p lo hi=false):=Hi (by rw [HNV.out,if_pos (Or.inl hn1)]);go_wp2;exact nXa (v:=.tuple #[.bool (nU p lo hi),.int .i64 0]) (by rw [HE.out];simp [results,Tryz.results26,go_sem]) rfl ⟨(),rfl,HX.out,trivial⟩
 go_wp2_with fail
 refine cM (ku (some ⟨Lq,0,none⟩) P P q ⟨hn,ha,hl,hc,hb,hm,hd⟩ hi S T _ HQ.out.can HH.out zo HSW.out ZB.out hT hS zo hT3) fun x26 w26 hE _=>?_
 refine mV5 hE ?_ HX B3 HL HH HQ;clear HX B3 HL HH HQ;intro HX B3 HL HH HQ;have hs_w26:=hE.size;replace b_B3:=bX3 B3;obtain ⟨s2,hs2⟩:∃ s2,s2=Sg.sg (evV q hi):=⟨_,rfl⟩;rw [←hs2] at HNV ⊢;clear hs2;by_cases hn2:s2<0
 case pos =>
  have HE:Hid (nU p lo hi=false):=Hi (by rw [HNV.out,if_pos (Or.inr hn2)]);go_wp2;exact nXa (v:=.tuple #[.bool (nU p lo hi),.int .i64 0]) (by rw [HE.out];simp [results,Tryz.results26,go_sem]) rfl ⟨(),rfl,HX.out,trivial⟩
 rw [if_neg (fun h=>h.elim (fun k=>by omega) (fun k=>by omega))] at HNV
 go_wp2_with fail
 refine cM (fh ⟨ln,la,ll,lc,lb,lm,ld⟩ ⟨hn,ha,hl,hc,hb,hm,hd⟩ lo hi _ (HL.out.raw ZA.out zo) (HH.out.raw ZB.out zo)) fun x33 w33 hE _=>?_
 refine mV5 hE ?_ HX B3 HL HH HQ;clear HX B3 HL HH HQ;intro HX B3 HL HH HQ;have hs_w33:=hE.size;replace b_B3:=bX3 B3;obtain ⟨c,hcc⟩:∃ c,c=dJ lo hi:=⟨_,rfl⟩;have HCC:Hid (c=0↔lo=hi):=Hi (by rw [hcc];exact nk);rw [←hcc];clear hcc;by_cases hc0:c=0
 case pos =>
  have HE:Hid (nU p lo hi=true):=Hi (by rw [HNV.out,if_pos (HCC.out.1 hc0)]);subst hc0;go_wp2;exact nXa (v:=.tuple #[.bool (nU p lo hi),.int .i64 0]) (by rw [HE.out];simp [results,Tryz.results26,go_sem]) rfl ⟨(),rfl,HX.out,trivial⟩
 have hcb:(c == 0)=false:=by rw [nXs];exact hc0
 rw [if_neg (fun h=>hc0 (HCC.out.2 h))] at HNV
 go_wp2_with fail
 refine cM (vW (some ⟨Lq,0,none⟩) P P q ⟨ln,la,ll,lc,lb,lm,ld⟩ lo S T _ HQ.out.can zo HTQ.out HSW.out hS zo HL.out ZA.out hT hT3) fun x38 w38 hE _=>?_
 refine mV5 hE ?_ HX B3 HL HH HQ;clear HX B3 HL HH HQ;intro HX B3 HL HH HQ;have hs_w38:=hE.size;replace b_B3:=bX3 B3;have hsI:=tp (P+1) q lo;obtain ⟨s3,hs3⟩:∃ s3,s3=eP (P+1) q lo:=⟨_,rfl⟩;rw [←hs3] at HNV hsI ⊢;clear hs3;by_cases hp3:0<s3
 case neg =>
  have HE:Hid (nU p lo hi=false):=Hi (by rw [HNV.out,decide_eq_false hp3];rfl);go_wp2;exact nXa (v:=.tuple #[.bool (nU p lo hi),.int .i64 0]) (by rw [HE.out];simp [results,Tryz.results26,go_sem]) rfl ⟨(),rfl,HX.out,trivial⟩
 go_wp2_with fail
 refine cM (wx (some ⟨Lq,0,none⟩) P P q K ⟨ln,la,ll,lc,lb,lm,ld⟩ ⟨hn,ha,hl,hc,hb,hm,hd⟩ lo hi T _ HQ.out.can hP HS0.out HKo.out hK hK2 HL.out HH.out ZA.out ZB.out hT hT3) fun x43 w43 hE _=>?_
 refine mV5 hE ?_ HX B3 HL HH HQ;clear HX B3 HL HH HQ;intro HX B3 HL HH HQ;have hs_w43:=hE.size;replace b_B3:=bX3 B3;obtain ⟨r,hr⟩:∃ r,r=st (P+1) q lo hi:=⟨_,rfl⟩;rw [←hr,decide_eq_true hp3] at HNV;rw [←hr];clear hr;have HE:Hid (nU p lo hi=!r):=Hi (by rw [HNV.out];rfl);cases r
 ·go_wp2;exact nXa (v:=.tuple #[.bool (nU p lo hi),.int .i64 0]) (by rw [HE.out];simp [results,Tryz.results26,go_sem]) rfl ⟨(),rfl,HX.out,trivial⟩
 ·go_wp2;exact nXa (v:=.tuple #[.bool (nU p lo hi),.int .i64 0]) (by rw [HE.out];simp [results,Tryz.results26,go_sem]) rfl ⟨(),rfl,HX.out,trivial⟩
theorem vZ(pa:Option Addr)(P pc:Nat)(p:List Rat)(K:Nat)(s t:RH)(a b:Rat)(T:Nat)(w:World)(h:bw w ⟨pa,P,pc⟩ p)(hP:P≤49)(hk:PoK K P p)(hK:K≤12000000)(hK2:(P+1)*(K / 3)≤25000000)
 (hs:aS w s a)(ht:aS w t b)(za:Sz T a)(zb:Sz T b)(hT:1≤T)(hT3:T≤1000) :
  au 27 [.slice pa P pc,IvV (s,t)] w (fun _:Unit=>.tuple #[.bool (sA p (loV a b) (hiV a b)),.int .i64 0]) (fun _ _=>True):=by
 obtain ⟨sn,sa,sl,sc,sb,sm,sd⟩:=s;obtain ⟨tn,ta,tl,tc,tb,tm,td⟩:=t;have HX:=Hi (Ext.refl w);have LP:=Hi h.lin;have HS:=Hi hs;have HT:=Hi ht;have hlen:=h.len;simp only at hlen;have HKp:=Hi hk.fr;have HKs:=Hi hk.sq;have HTZ:=Hi hk.tz;obtain ⟨S,D,hS,hD,hDW,hF,hSK⟩:=hk.fr;have hSs:=KZ.small hSK;have HF:=Hi hF;have HSz:Hid (SzL K p):=Hi ((hF.sz hS hD hDW).mono zo);have HSW:Hid (∀ y ∈ ar p,Wz S y):=Hi (cY (fun x hx=>hF x (eB hx)) hD);have HSl:Hid ((ar p).length=P):=Hi (by rw [aC,hk.tz,hlen]);have ZA:Hid (Sz T (loV a b)):=Hi (by rcases n4 a b with e|e <;> rw [e] <;> assumption);have ZB:Hid (Sz T (hiV a b)):=Hi (by rcases oh a b with e|e <;> rw [e] <;> assumption);have HLH:Hid (loV (loV a b) (hiV a b)=loV a b∧hiV (loV a b) (hiV a b)=hiV a b):=Hi ⟨lE (xg a b),lF (xg a b)⟩;obtain ⟨lo,hlo⟩:∃ lo,lo=loV a b:=⟨_,rfl⟩;obtain ⟨hi,hhi⟩:∃ hi,hi=hiV a b:=⟨_,rfl⟩;rw [←hlo] at ZA;rw [←hhi] at ZB;rw [←hlo,←hhi] at HLH;have HLO:=Hi hlo;have HHI:=Hi hhi;have HLn:=Hi hlen;rw [←hlo,←hhi];clear h hs ht hk za zb hlo hhi hF hSK hlen;unfold au;go_enter Tryz.func27,Tryz.ntmps27
 go_upto_region 1 with fail
 refine nmA ?_;intro w1 hE B3 hz_w1 hr_w1;refine mV4 hE ?_ HX LP HS HT;clear HX LP HS HT;intro HX LP HS HT;have hs_w1:=hE.size;replace b_B3:=bX3 B3
 go_wp2_with fail
 refine cM (iW pa P pc p _ (LP.out.can.raw HSz.out zo)) fun x9 w9 hE _=>?_
 refine mV5 hE ?_ B3 HX LP HS HT;clear B3 HX LP HS HT;intro B3 HX LP HS HT;have hs_w9:=hE.size;replace b_B3:=bX3 B3;by_cases h0:P=0
 case pos =>
  subst h0;have hp:p=[]:=nXj.1 HLn.out;have HE:Hid (sA p lo hi=false):=Hi (by rw [hp];rfl);rw [zf hp];clear hp;go_wp2;exact nXa (v:=.tuple #[.bool (sA p lo hi),.int .i64 0]) (by rw [HE.out];simp [results,Tryz.results27,go_sem]) rfl ⟨(),rfl,HX.out,trivial⟩
 have hp:tz p≠[]:=fun h=>h0 (by rw [←HLn.out,←HTZ.out,h];rfl)
 have H0:=Hi hp;rw [zg hp (by rw [HLn.out];exact hP)];clear hp;have HNV:Hid (sA p lo hi=if Sg.sg (evV (ar p) lo)≤0 then false else decide (cntV p lo hi=0)):=Hi (by
  unfold sA;rw [if_neg H0.out])
 go_wp2_with fail
 refine cM (gE ⟨sn,sa,sl,sc,sb,sm,sd⟩ ⟨tn,ta,tl,tc,tb,tm,td⟩ a b _ HS.out HT.out) fun x15 w15 hE G15=>?_
 refine mV5 hE ?_ B3 HX LP HS HT;clear B3 HX LP HS HT;intro B3 HX LP HS HT;have hs_w15:=hE.size;replace b_B3:=bX3 B3;obtain ⟨⟨ln,la,ll,lc,lb,lm,ld⟩,⟨hn,ha,hl,hc,hb,hm,hd⟩⟩:=x15;rw [←HLO.out,←HHI.out] at G15;have HL:=Hi G15.out.1;have HH:=Hi G15.out.2;clear G15;clear HS;clear HT
 go_upto_region 7 with fail
 refine df B3.out rfl ?_;intro w16 T;replace HX:=Hi (T.ext HX.out zo);replace LP:=Hi (LP.out.put T zo);replace B3:=Hi (T.bx);replace HL:=Hi (HL.out.keep T.keep);replace HH:=Hi (HH.out.keep T.keep);have hs_w16:=nle T.size;have hr_w16:=nle T.size.symm;clear T;replace b_B3:=bX3 B3;obtain ⟨s1,hs1⟩:∃ s1,s1=Sg.sg (evV (ar p) lo):=⟨_,rfl⟩;have HS1:=Hi hs1;rw [←hs1] at HNV;clear hs1;refine wpG 6 (fun opIx=>match opIx with
  | 1=>.spec (SH) (default) (SH.v) (fun x w'=>A7 P w' x (ar p))
  | 4=>sU (.int .i64 s1)
  | _=>.quiet) (fun|4=>[1]|_=>[]) fun w0 he0 hz0 hc0 hf0=>?_
 refine wps he0 (fun w1 hW hG=>?_) fun x20=>?_
 ·exact spc [.slice pa P pc] Tryz.func77 ((iS pa P pc p S D _ (LP.out.can.ext hW) zo hS zo hD hDW HF.out).wk (fun x w' _ h=>⟨let ⟨_,_,_,_,h4⟩:=h.lin (by have:=HSl.out;omega);h4.can,by have h5:=(let ⟨_,_,_,_,h4⟩:=h.lin (by have:=HSl.out;omega);h4.can.len);rw [←h5];exact HSl.out⟩))
 refine qZ ?_;refine wps he0 (fun w1 hW hG=>?_) fun x21=>?_
 ·have g20:=gS (hG 1 dZ);exact spc [x20.v,RH.v ⟨ln,la,ll,lc,lb,lm,ld⟩] Tryz.func79 ((by rw [HS1.out];exact ku x20.a x20.n x20.c (ar p) ⟨ln,la,ll,lc,lb,lm,ld⟩ lo S T _ g20.1 (HL.out.ext hW) (by rw [g20.2];omega) HSW.out ZA.out hT hS zo hT3))
 refine qZ ?_;refine aq ?_;intro w17 hI;have hE:=he0.out.trans hI.ext;have G20:=gT (hI.facts 1);clear hI he0 hz0 hc0 hf0;refine mV5 hE ?_ HX B3 HH LP HL;clear HX B3 HH LP HL;intro HX B3 HH LP HL;have hs_w17:=hE.size;replace b_B3:=bX3 B3;simp only [pD];clear G20;by_cases hn1:s1≤0
 case pos =>
  have HE:Hid (sA p lo hi=false):=Hi (by rw [HNV.out,if_pos hn1]);go_wp2;exact nXa (v:=.tuple #[.bool (sA p lo hi),.int .i64 0]) (by rw [HE.out];simp [results,Tryz.results27,go_sem]) rfl ⟨(),rfl,HX.out,trivial⟩
 rw [if_neg (fun h=>by omega)] at HNV
 go_wp2_with fail
 refine cM (lP pa P pc p K ⟨ln,la,ll,lc,lb,lm,ld⟩ ⟨hn,ha,hl,hc,hb,hm,hd⟩ lo hi T _ LP.out.can hP H0.out HKp.out hK hK2 HKs.out (HL.out.raw ZA.out zo) (HH.out.raw ZB.out zo) ZA.out ZB.out hT hT3) fun x25 w25 hE _=>?_
 refine mV5 hE ?_ HX B3 HH LP HL;clear HX B3 HH LP HL;intro HX B3 HH LP HL;have hs_w25:=hE.size;replace b_B3:=bX3 B3;rw [HLH.out.1,HLH.out.2];obtain ⟨c,hcc⟩:∃ c,c=cntV p lo hi:=⟨_,rfl⟩;rw [←hcc] at HNV ⊢;clear hcc;by_cases hc0:c=0
 ·have HE:Hid (sA p lo hi=true):=Hi (by rw [HNV.out,decide_eq_true hc0]);subst hc0;go_wp2;exact nXa (v:=.tuple #[.bool (sA p lo hi),.int .i64 0]) (by rw [HE.out];simp [results,Tryz.results27,go_sem]) rfl ⟨(),rfl,HX.out,trivial⟩
 ·have HE:Hid (sA p lo hi=false):=Hi (by rw [HNV.out,decide_eq_false hc0]);have hcb:(c == 0)=false:=by rw [nXs];exact hc0
  go_wp2;exact nXa (v:=.tuple #[.bool (sA p lo hi),.int .i64 0]) (by rw [HE.out];simp [results,Tryz.results27,go_sem]) rfl ⟨(),rfl,HX.out,trivial⟩
end Go.Proofs.YtafgmcimcbhhjaaGreat
/- Count and Positive of package sturm and of the reference are the same. Plain facts. -/
namespace Go.Proofs.YtafgmcimcbhhjaaGreat.Sg
open Go.RowKit Go.Front Go.Num Go.Stab Go.Proofs.YtafgmcimcbhhjaaGreat
/-! ## Chains of -p -/
def ng(l:List Rat):List Rat:=l.map (·*-1)
theorem jd(l:List Rat)(n:Nat):seq (ng l) n=seq l n*-1:=aQ l (-1) n
theorem nV{l:List Rat}:ng l=[]↔l=[]:=List.map_eq_nil_iff
theorem yE(l:List Rat):(ng l).length=l.length:=nXl ..
theorem Ae(l:List Rat):tz (ng l)=ng (tz l):=eN (c:=-1) dZ l
theorem qt(b:Rat):(b*-1).abs=b.abs:=by
 unfold Rat.abs;split <;> split <;> grind
theorem yL(b:Rat):(b*-1)⁻¹=b⁻¹*-1:=by
 by_cases h:b=0
 ·subst h;decide +kernel
 ·have h1:=nYj b h;have h2:=nYj (b*-1) (fun e=>h (by grind));generalize (b*-1)⁻¹=x at *
  generalize b⁻¹=y at *
  have:x=x*(b*y):=by rw [h1,Rat.mul_one]
  rw [this];have h3:x*(b*y)=(b*-1*x)*(y*-1):=by grind
  rw [h3,h2,Rat.one_mul]
theorem zW(a b:Rat):fH a (b*-1)=fH a b:=by
 unfold fH;by_cases ha:a=0
 ·rw [if_pos ha,if_pos ha,qt]
 ·rw [if_neg ha,if_neg ha];by_cases hb:b=0
  ·rw [if_pos hb,if_pos (by rw [hb];grind)]
  ·have e1:a / (b*-1)=-(a / b):=by
    rw [Rat.div_def,Rat.div_def,yL];grind
   rw [if_neg hb,if_neg (fun e=>hb (by grind)),e1,Rat.neg_num,Rat.intCast_neg];rw [show a / -(((a / b).num:Int):Rat)=a / (((a / b).num:Int):Rat)*-1 from by rw [Rat.div_def,show -(((a / b).num:Int):Rat)=(((a / b).num:Int):Rat)*-1 by grind,yL,Rat.div_def];grind,qt]
theorem Al(l:List Rat):bj (ng l)=bj l:=by
 unfold bj ng
 suffices ∀ m,List.foldl fH m (l.map (·*-1))=List.foldl fH m l from this 0
 induction l with
 | nil=>intro m;rfl
 | cons x l ih=>intro m;rw [List.map_cons,List.foldl_cons,List.foldl_cons,zW];exact ih _
theorem s0(p:List Rat):ar (ng p)=ng (ar p):=by
 unfold ar aK;rw [Ae,Al];unfold ng;rw [List.map_map,List.map_map];exact List.map_congr_left fun x _=>by show x*-1 / _=x / _*-1;rw [Rat.div_def,Rat.div_def];grind
theorem Dr(l:List Rat)(x:Rat):evV (ng l) x=evV l x*-1:=(bP l (-1) x).trans (nYc ..)
theorem Af{a b:List Rat}(hb:tz b≠[]):ar (ng (bB (ng a) (ng b)))=ng (ar (ng (bB a b))):=by
 obtain ⟨h1,-,-,h4⟩:=cd a hb;have hb2:tz (ng b)≠[]:=by rw [Ae];exact fun h=>hb (nV.1 h)
 have h5:=(gK (p:=ng a) (q:=ng b) hb2 (s:=seq (bD a b)) (r:=seq (ng (bB a b))) (F:=1) (N:=(bD a b).length) (Bd.seq _) (fun i hi=>by rw [jd,Bd.seq _ i (by rw [Ae,yE] at hi;omega),nYa]) (fun n=>by
  have hs:seq (ng b)=fun i=>-1*seq b i:=funext fun i=>by rw [jd];grind
  rw [Rat.one_mul,jd,jd,h4 n,hs,gi _ (fun i=>-1*seq b i),fF,gi];grind)).2
 have h6:ar (ng (bB (ng a) (ng b)))=ar (ng (ng (bB a b))):=cg (c:=1) dZ (fun n=>by rw [jd,jd,h5 n];grind);rw [h6,s0 (ng (bB a b))]
theorem ze:∀ (n:Nat) (a b:List Rat),tz b=b→chn n (ng a) (ng b)=(chn n a b).map ng
 | 0,_,_,_=>rfl
 | n+1,a,b,hb=>by
  unfold chn;by_cases h1:a=[]
  ·rw [if_pos h1,if_pos (nV.2 h1)];rfl
  ·rw [if_neg h1,if_neg (fun h=>h1 (nV.1 h))];by_cases h2:b=[]
   ·rw [if_pos h2,if_pos (nV.2 h2)];rfl
   ·rw [if_neg h2,if_neg (fun h=>h2 (nV.1 h)),List.map_cons];have h3:=Af (a:=a) (b:=b) (by rw [hb];exact h2);have h4:=ze n b (ar (ng (bB a b))) (aX _);show ng a :: chn n (ng b) (ar (ng (bB (ng a) (ng b))))=_;rw [h3,h4];rfl
theorem sG:∀ (l:List Int) (a:Int),vr (-a) (l.map (fun s=>-s))=vr a l
 | [],_=>rfl
 | s :: l,a=>by
  rw [List.map_cons];unfold vr;by_cases h:s=0
  ·rw [if_pos h,if_pos zo];exact sG l a
  ·rw [if_neg h,if_neg zo,sG l s]
   congr 1
   by_cases h2:a≠0∧s≠a
   ·rw [if_pos h2,if_pos zo]
   ·rw [if_neg h2,if_neg zo]
theorem Bi(l:List (List Rat))(x:Rat):cw (l.map ng) x=cw l x:=by
 unfold cw;rw [List.map_map,show (fun m=>sg (evV m x)) ∘ ng=fun m=>-(sg (evV m x)) from funext fun m=>by show sg (evV (ng m) x)=_;rw [Dr,fE];show _*(-1:Int)=_;omega];rw [show (l.map fun m=>-(sg (evV m x)))=(l.map fun m=>sg (evV m x)).map (fun s=>-s) by rw [List.map_map];rfl];exact sG _ 0
theorem ry:∀ (n m:Nat) (a b:List Rat),tz b=b→b.length≤n→b.length≤m→chn (n+1) a b=chn (m+1) a b
 | n,m,a,b,hb,h1,h2=>by
  rw [chn,chn];by_cases h3:a=[]
  ·rw [if_pos h3,if_pos h3]
  ·rw [if_neg h3,if_neg h3];by_cases h4:b=[]
   ·rw [if_pos h4,if_pos h4]
   ·rw [if_neg h4,if_neg h4];have h5:=nYg.2 h4;obtain ⟨n',rfl⟩:∃ k,n=k+1:=⟨n-1,zo⟩;obtain ⟨m',rfl⟩:∃ k,m=k+1:=⟨m-1,zo⟩;have h6:=mN a b (by rw [hb];exact h4);rw [hb] at h6;rw [ry n' m' b _ (aX _) zo zo]
 termination_by n=>n
theorem yZ(p:List Rat):(ar (derL p)).length≤p.length:=by
 by_cases h:tz p=[]
 ·have:tz (derL p)=[]:=sO (b:=[]) (fun i=>by
   show seq (derL p) i=_;rw [seq_derL,←aT p,h];show _*(0:Rat)=0;rw [nYb])
  rw [bH.2 this];exact Nat.zero_le _
 ·rw [aC];obtain ⟨n,hn,-⟩:=dN h;have:=eK p n hn;have:=ah p;omega
theorem rems_same{a b:List Rat}{c:Rat}(hc:0<c)(h:∀ n,seq b n=seq a n*c):remsV b=remsV a:=by
 have h1:ar b=ar a:=cg hc h;have h2:ar (derL b)=ar (derL a):=cg hc (fun n=>by rw [seq_derL,seq_derL,h,nYd]);unfold remsV;rw [h1,h2];exact ry _ _ _ _ (aX _) (by rw [←h2];exact yZ b) (yZ a)
theorem zN(p:List Rat):remsV (ng p)=(remsV p).map ng:=by
 have h2:ar (derL (ng p))=ng (ar (derL p)):=by
  rw [←s0];exact cg (c:=1) dZ (fun n=>by rw [jd,seq_derL,seq_derL,jd];grind)
 unfold remsV;rw [s0,h2,yE];exact ze _ _ _ (aX _)
theorem nu{a b:List Rat}{c:Rat}(hc:c≠0)(h:∀ n,seq b n=seq a n*c)(x:Rat):cw (remsV b) x=cw (remsV a) x:=by
 by_cases h1:0<c
 ·rw [rems_same h1 h]
 ·rw [rems_same (a:=ng a) (c:=-c) (by grind) (fun n=>by rw [jd,h n];grind),zN,Bi]
theorem rE{a b:List Rat}(h:∀ x,evV a x*evV b x=1):∃ c:Rat,c≠0∧∀ x,evV b x=c:=by
 have ha:tz a≠[]:=fun h0=>by have:=h 0;rw [ax.1 h0,nYa] at this;exact absurd this dZ
 have hb:tz b≠[]:=fun h0=>by have:=h 0;rw [ax.1 h0,nYb] at this;exact absurd this dZ
 have h1:∀ x,evV (aI a b) x=evV [1] x:=fun x=>by rw [aU,h x];show (1:Rat)=0*x+1;grind
 have h2:=cU h1;have h3:=k7 ha hb;have h4:ln [1]=1:=by decide
 have h5:=dM ha;have h6:=dM hb;have h7:(tz b).length=1:=by show ln b=1;omega
 obtain ⟨c,hc⟩:=List.length_eq_one_iff.1 h7;have h8:∀ x,evV b x=c:=fun x=>by rw [←Aw b,hc];show 0*x+c=c;grind
 exact ⟨c,fun h0=>by have:=h 0;rw [h8,h0,nYb] at this;exact absurd this dZ,h8⟩
theorem zD{p:List Rat}(h:tz p≠[])(h1:Rt p p):∃ c:Rat,c≠0∧∀ n,seq (sqfV p) n=seq p n*c:=by
 obtain ⟨g1,q1,⟨a1,rfl⟩,-,⟨-,-,u,v,⟨bu,rfl⟩,⟨bv,rfl⟩,h4⟩,h2,-⟩:=h1.dv;obtain ⟨g2,q2,⟨a2,rfl⟩,-,⟨⟨k1,⟨b1,rfl⟩,h5⟩,⟨k2,⟨b2,rfl⟩,h6⟩,-⟩,h3,-⟩:=(kx h).dv;have e1:∀ x,evV a1 x=1:=by
  have i1:∀ x,evV (aI (gY a1 [1]) p) x=0:=fun x=>by
   rw [aU,et];show (evV a1 x-(0*x+1))*evV p x=0;have:=h2 x;grind
  have i2:=ax.2 i1;have i3:tz (gY a1 [1])=[]:=Classical.byContradiction fun hn=>by
   have h7:=k7 hn h;have h8:=dM hn;have h9:=dM h;have h0:ln (aI (gY a1 [1]) p)=0:=by show (tz _).length=0;rw [i2];rfl
   omega
  intro x;have h7:=ax.1 i3 x;rw [et] at h7;have h8:evV [1] x=1:=by show 0*x+1=(1:Rat);grind
  rw [h8] at h7;grind
 obtain ⟨c,hc,h7⟩:=rE (a:=gU (aI bu b1) (aI bv b2)) (b:=a2) (fun x=>by
  have i1:=h4 x;rw [e1 x,h5 x,h6 x] at i1;rw [iz,aU,aU];grind)
 refine ⟨c⁻¹,fun h0=>by have k:=nYj c hc;rw [h0,nYb] at k;exact absurd k dZ,fun n=>?_⟩;rw [←aQ];refine f9 (fun x=>?_) n;rw [bP,h3 x,h7 x,←nYd,Rat.inv_mul_cancel c hc,Rat.one_mul]
theorem CH{p:List Rat}(h:tz p≠[])(lo hi:Rat):cntV p lo hi=vN p lo hi:=by
 have hd:∀ (r:List Rat),tz r≠[]→(rtV (remsV r) lo=true↔sg (evV r lo)=0):=fun r hr=>by
  obtain ⟨l,hl⟩:=i7 hr;unfold rtV;rw [hl,decide_eq_true_eq];show sg (evV (ar r) lo)=0↔_;rw [mB]
 have hne:=(kx h).ne;unfold cntV vN;rw [eD,eD];by_cases hr:2≤((remsV p).getLast?.getD []).length
 ·have e:rootV p=sqfV p:=by unfold rootV;rw [if_pos hr]
  rw [e];by_cases h0:sg (evV (sqfV p) lo)=0
  ·rw [if_pos h0,if_pos ((hd _ hne).2 h0)]
  ·rw [if_neg h0,if_neg (fun k=>h0 ((hd _ hne).1 k))]
 ·have e:rootV p=p:=by unfold rootV;rw [if_neg hr]
  have hrt:=jz h;rw [e] at hrt ⊢;obtain ⟨c,hc,h1⟩:=zD h hrt;rw [nu hc h1,nu hc h1];have h2:evV (sqfV p) lo=c*evV p lo:=eC (fun n=>by rw [h1 n,nYc]) lo;by_cases h0:sg (evV p lo)=0
  ·rw [if_pos ((hd _ h).2 h0),if_pos (by rw [h2,fE,h0,Int.mul_zero])]
  ·rw [if_neg (fun k=>h0 ((hd _ h).1 k)),if_neg (fun k=>by
    rw [h2,fE] at k;rcases Int.mul_eq_zero.1 k with k|k
    ·exact hc (cL.1 k)
    ·exact h0 k)]
end Go.Proofs.YtafgmcimcbhhjaaGreat.Sg
/- Positive for lists of any form. -/
namespace Go.Proofs.YtafgmcimcbhhjaaGreat
open Go.RowKit Go.Front Go.Num Stab
attribute [local go_sem] XW.cell XW.frozen
theorem mL(p:List Rat):Sg.remsV (tz p)=Sg.remsV p :=
 (Sg.rems_same (c:=1) dZ (fun n=>by rw [aT,Rat.mul_one])).symm
theorem Aj(p:List Rat):bq (tz p)=bq p:=Pr.mon ⟨1,dZ,fun n=>by rw [aT,Rat.one_mul]⟩
theorem sY(p:List Rat):Sg.sqfV (tz p)=Sg.sqfV p:=by
 have hd:tz (Sg.derL (tz p))=tz (Sg.derL p):=jR (fun n=>by rw [Sg.seq_derL,Sg.seq_derL,aT]);have hg:bN (tz p) (Sg.derL (tz p))=bN p (Sg.derL p):=by
  rw [←gH,hd,gH];unfold bN;rw [Aj]
 have hq:bD (tz p) (bN p (Sg.derL p))=bD p (bN p (Sg.derL p)):=by unfold bD;rw [aM]
 unfold Sg.sqfV;rw [hg,hq]
theorem CG(p:List Rat)(lo hi:Rat):Sg.cntV (tz p) lo hi=Sg.cntV p lo hi:=by
 have h:Sg.remsV (Sg.rootV (tz p))=Sg.remsV (Sg.rootV p):=by
  unfold Sg.rootV;rw [mL,sY];split
  ·rfl
  ·exact mL p
 unfold Sg.cntV;rw [h]
open Sg
theorem zG{p:List Rat}{n:Nat}(hn:(tz p).length≤n)(x:Rat):eP n (ar p) x=eP n (tz p) x:=by
 by_cases h0:tz p=[]
 ·rw [h0,bH.2 h0]
 ·obtain ⟨k,g,hg,hga,he⟩:=BV x _ p (nXe _) h0;have hk:=mO k p g hg h0 he;have hm:=aZ h0;have hi:=Rat.inv_mul_cancel _ (show aK p≠0 from fun k=>by rw [k] at hm;exact absurd hm Rat.lt_irrefl);have hip:0<(aK p)⁻¹:=Rat.inv_pos.2 hm;have e2:∀ y,evV (ar p) y=(aK p)⁻¹*evV p y:=fun y=>by
   rw [cj p y,←nYd,hi,Rat.one_mul]
  rw [kC k n (tz p) g zo hg hga (fun y=>by rw [yS];exact he y),
   kC k n (ar p) (fun y=>(aK p)⁻¹*g y) zo (hg.smul _) (fun h=>hga ((nXr.1 h).elim (fun h=>by rw [h] at hip;exact absurd hip Rat.lt_irrefl) id)) (fun y=>by rw [e2 y,he y];grind)]
  exact De hip
structure ScS (p:List Rat):Prop where
 fb:FrB 19 p
 ln:p.length≤12
theorem scK:KN 1100000 19 12:=by unfold KN;decide
theorem ScS.frk{p:List Rat}(h:ScS p):FrK 1100000 p:=by
 obtain ⟨h1,D,h2,h3,h4⟩:=h.fb;exact qO h1 h2 h3 h4 h.ln scK
theorem ScS.sqf{p:List Rat}(h:ScS p)(h0:tz p≠[]):FrK 1100000 (sqfV p):=by
 obtain ⟨h1,D,h2,h3,h4⟩:=h.fb;exact uG h2 h4 h0 h.ln dZ scK
theorem ScS.tz{p:List Rat}(h:ScS p):FrK 1100000 (Go.Proofs.YtafgmcimcbhhjaaGreat.tz p):=ScS.frk ⟨h.fb.tz,nXf (ah p) h.ln⟩
theorem ScS.sqft{p:List Rat}(h:ScS p)(h0:Go.Proofs.YtafgmcimcbhhjaaGreat.tz p≠[]):FrK 1100000 (sqfV (Go.Proofs.YtafgmcimcbhhjaaGreat.tz p)):=by rw [sY];exact h.sqf h0
theorem ScS.raw{p:List Rat}(h:SzL 2 p)(hl:p.length≤8):ScS p:=⟨FrB.of (n:=8) h hl,zo⟩
def xS(p:List Rat)(lo hi:Rat):Int×Int:=if tz p=[] then (0,3) else (cntV p lo hi,0)
theorem rt{p:List Rat}{lo hi:Rat}(h:tz p=[]):xS p lo hi=(0,3):=if_pos h
theorem ru{p:List Rat}{lo hi:Rat}(h:tz p≠[]):xS p lo hi=(cntV p lo hi,0):=if_neg h
theorem AN{p:List Rat}(h:tz p≠[])(lo hi:Rat):vN (tz p) lo hi=cntV p lo hi:=by
 rw [←CH (by rw [aM];exact h),CG]
end Go.Proofs.YtafgmcimcbhhjaaGreat
/- What Isolate of package sturm returns: the list, that it isolates, and where its numbers lie. Plain facts. -/
namespace Go.Proofs.YtafgmcimcbhhjaaGreat.Sg
open Go.RowKit Go.Front Go.Num Go.Stab Go.Proofs.YtafgmcimcbhhjaaGreat
def flP(L:List (Rat×Rat)):List Rat:=L.flatMap fun x=>[x.1,x.2]
theorem f7(a b:List (Rat×Rat)):flP (a++b)=flP a++flP b:=by unfold flP;rw [List.flatMap_append]
theorem nb(L:List (Rat×Rat)):(flP L).length=2*L.length:=by
 induction L with
 | nil=>rfl
 | cons a l ih =>
  show ([a.1,a.2]++flP l).length=_;rw [nXi,ih,List.length_cons,List.length_cons,List.length_cons,List.length_nil];omega
theorem qR:∀ (L:List (Rat×Rat)) (k:Nat) (h:k<L.length),(flP L).getD (2*k) 0=L[k].1∧(flP L).getD (2*k+1) 0=L[k].2
 | a :: l,0,_=>⟨rfl,rfl⟩
 | a :: l,k+1,h=>by
  have h1:=qR l k (by simpa using h);have e:flP (a :: l)=a.1 :: a.2 :: flP l:=rfl;rw [e,show 2*(k+1)=2*k+1+1 by omega,show 2*k+1+1+1=(2*k+1)+1+1 by omega];exact h1
def isP(q:List Rat)(wd:Rat)(E:Nat)(lo hi:Rat):List (Rat×Rat):=(if evV q lo=0 then [(lo,lo)] else [])++(if lo<hi then opS q wd E lo hi++(if evV q hi=0 then [(hi,hi)] else []) else [])
structure D9 (q:List Rat) (wd lo hi:Rat) (L:List (Rat×Rat)):Prop where
 all:∀ x ∈ L,IsI q wd lo hi x
 len:(L.length:Int)=clc q lo hi
 srt:L.Pairwise (fun x y=>x.2≤y.1)
theorem xV{q:List Rat}{x:Rat}(h:evV q x=0):clc q x x=1:=by
 unfold clc;rw [if_pos h];omega
theorem Cd{q:List Rat}{wd:Rat}{D T m Y E:Nat}(H:Sp6 q wd D T m Y){lo hi:Rat}(h1:lo≤hi)(h2:Dy D (W32 ^ T) 0 lo)(h3:Dy D (W32 ^ T) 0 hi)(h4:(hi-lo)*((W32 ^ Y:Nat):Rat)≤((2 ^ E:Nat):Rat)):D9 q wd lo hi (isP q wd E lo hi):=by
 have hw:=H.wd0;have one:∀ x,lo≤x→x≤hi→∀ y,y ∈ (if evV q x=0 then [(x,x)] else [])→y=(x,x)∧IsI q wd lo hi y:=fun x k1 k2 y hy=>by
  by_cases hz:evV q x=0
  ·rw [if_pos hz] at hy;rw [nXu.1 hy];exact ⟨rfl,k1,Rat.le_refl,k2,by simp only;grind,xV hz⟩
  ·rw [if_neg hz] at hy;exact absurd hy List.not_mem_nil
 have l1:∀ x,(((if evV q x=0 then [(x,x)] else ([]:List (Rat×Rat))).length:Nat):Int)=if evV q x=0 then 1 else 0:=fun x=>by split <;> rfl
 have pw:∀ x,(if evV q x=0 then [(x,x)] else ([]:List (Rat×Rat))).Pairwise (fun x y=>x.2≤y.1):=fun x=>by
  split
  ·exact List.pairwise_singleton _ _
  ·exact List.Pairwise.nil
 unfold isP;by_cases hlt:lo<hi
 ·rw [if_pos hlt];have a:=tO H E 0 hlt h2 h3 h4;refine ⟨fun x hx=>?_,?_,?_⟩
  ·rcases List.mem_append.1 hx with k|k
   ·exact (one lo Rat.le_refl h1 x k).2
   ·rcases List.mem_append.1 k with k|k
    ·exact a.all x k
    ·exact (one hi h1 Rat.le_refl x k).2
  ·have:=a.len;rw [nXi,nXi,Int.natCast_add,Int.natCast_add,l1,l1,this];unfold opc clc;split <;> split <;> omega
  ·rw [List.pairwise_append];refine ⟨pw lo,?_,fun x hx y hy=>?_⟩
   ·rw [List.pairwise_append];exact ⟨a.srt,pw hi,fun x hx y hy=>by rw [(one hi h1 Rat.le_refl y hy).1];exact (a.all x hx).hi⟩
   ·rw [(one lo Rat.le_refl h1 x hx).1];rcases List.mem_append.1 hy with k|k
    ·exact (a.all y k).lo
    ·rw [(one hi h1 Rat.le_refl y k).1];exact h1
 ·have e:lo=hi:=by grind
  subst e;rw [if_neg hlt,List.append_nil];refine ⟨fun x hx=>(one lo Rat.le_refl Rat.le_refl x hx).2,?_,pw lo⟩;rw [l1];unfold clc;omega
theorem BC{q:List Rat}{wd:Rat}{D R:Nat}{P:Rat→Prop}{E:Nat}(hP:∀ e x,e≤E→Dy D R e x→P x):∀ (d:Nat) {e:Nat} {l h:Rat} {lr hr:Bool} {bf:Int},d+e=E→Dy D R e l→Dy D R e h→P (sgS q wd bf d l h lr hr).1∧P (sgS q wd bf d l h lr hr).2:=by
 intro d;induction d with
 | zero=>intro e l h lr hr bf he h1 h2;exact ⟨hP e _ zo h1,hP e _ zo h2⟩
 | succ d ih =>
  intro e l h lr hr bf he h1 h2;unfold sgS;split
  ·exact ⟨hP e _ zo h1,hP e _ zo h2⟩
  ·split
   ·exact ⟨hP (e+1) _ zo (h1.mid h2),hP (e+1) _ zo (h1.mid h2)⟩
   ·split
    ·exact ih zo (h1.mid h2) h2.up
    ·exact ih zo h1.up (h1.mid h2)
theorem BP{q:List Rat}{wd:Rat}{D R:Nat}{P:Rat→Prop}{E:Nat}(hP:∀ e x,e≤E→Dy D R e x→P x):∀ (d:Nat) {e:Nat} {lo hi:Rat},d+e=E→Dy D R e lo→Dy D R e hi→∀ y ∈ flP (opS q wd d lo hi),P y:=by
 have one:∀ (d e:Nat) (lo hi:Rat) (bf:Int) (lr hr:Bool),d+e=E→Dy D R e lo→Dy D R e hi→∀ y ∈ flP [sgS q wd bf d lo hi lr hr],P y:=fun d e lo hi bf lr hr he h1 h2 y hy=>by
  have h3:=BC (q:=q) (wd:=wd) hP d (lr:=lr) (hr:=hr) (bf:=bf) he h1 h2;have hy:y ∈ [(sgS q wd bf d lo hi lr hr).1,(sgS q wd bf d lo hi lr hr).2]:=hy;simp only [List.mem_cons,List.not_mem_nil,or_false] at hy;rcases hy with rfl|rfl
  ·exact h3.1
  ·exact h3.2
 have nil:∀ y ∈ flP [],P y:=fun y hy=>absurd hy List.not_mem_nil
 intro d;induction d with
 | zero =>
  intro e lo hi he h1 h2;unfold opS;split
  ·exact nil
  ·exact one 0 e lo hi _ _ _ he h1 h2
 | succ d ih =>
  intro e lo hi he h1 h2;unfold opS;split
  ·exact nil
  ·split
   ·exact one (d+1) e lo hi _ _ _ he h1 h2
   ·intro y hy;rw [f7,f7] at hy;rcases List.mem_append.1 hy with k|k
    ·exact ih zo h1.up (h1.mid h2) y k
    ·rcases List.mem_append.1 k with k|k
     ·split at k
      ·have k:y ∈ [md6 lo hi,md6 lo hi]:=k;simp only [List.mem_cons,List.not_mem_nil,or_false,or_self] at k;rw [k];exact hP (e+1) _ zo (h1.mid h2)
      ·exact absurd k List.not_mem_nil
     ·exact ih zo (h1.mid h2) h2.up y k
theorem Cc{q:List Rat}{wd:Rat}{D R:Nat}{P:Rat→Prop}{E:Nat}(hP:∀ e x,e≤E→Dy D R e x→P x){lo hi:Rat}(h1:Dy D R 0 lo)(h2:Dy D R 0 hi):∀ y ∈ flP (isP q wd E lo hi),P y:=by
 have one:∀ x,Dy D R 0 x→∀ y,y ∈ flP (if evV q x=0 then [(x,x)] else [])→P y:=fun x hx y k=>by
  split at k
  ·have k:y ∈ [x,x]:=k;simp only [List.mem_cons,List.not_mem_nil,or_false,or_self] at k;rw [k];exact hP 0 _ zo hx
  ·exact absurd k List.not_mem_nil
 intro y hy;unfold isP at hy;rw [f7] at hy;rcases List.mem_append.1 hy with k|k
 ·exact one lo h1 y k
 ·split at k
  ·rw [f7] at k;rcases List.mem_append.1 k with k|k
   ·exact BP hP E zo h1 h2 y k
   ·exact one hi h2 y k
  ·exact absurd k List.not_mem_nil
end Go.Proofs.YtafgmcimcbhhjaaGreat.Sg
