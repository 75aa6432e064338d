import Derived.Test.YtkcpmclnocmalaaGreatQMK11
set_option linter.unusedVariables false
set_option maxHeartbeats 8000000
set_option maxRecDepth 8000
namespace Go.Proofs.YtkcpmclnocmalaaGreat
open Go.RowKit Go.Front Go.Num Stab Sg
attribute [local go_sem] XW.cell XW.frozen
def OkC(K:Nat):Nat→List Rat→Prop
 | 0,_=>True
 | n+1,p=>FrK K p∧FrK K (sqfV p)∧OkC K n (aV p (derL p))
theorem AH{p:List Rat}(h:2≤(tz p).length):(aV p (derL p)).length<p.length:=by
 obtain ⟨n,hn⟩:∃ n,(tz p).length=n+2:=⟨(tz p).length-2,zo⟩;have h1:=wy hn;have h2:=gD (dE p (derL p)).2.1 h1;have h3:=fP p (n+1) hn;rw [nj] at h2;have:=aj p;omega
theorem wR{p:List Rat}{a b:Rat}(h0:tz p≠[])(h:lA p a b≠0):2≤(tz p).length:=by
 apply Classical.byContradiction;intro hn;have hl:(tz p).length=1:=by have:=nYh.2 h0;omega
 apply h;have h1:=fP p 0 hl;have h2:ay (derL p)=[]:=spl_ne.2 (nXj.1 zo);have h3:aP p=[ay p]:=by
  unfold aP;rw [h2,eQ (fun h=>h0 (spl_ne.1 h))]
 have h4:aT p=p:=by
  unfold aT;rw [h3];show (if 2≤(ay p).length then sqfV p else p)=p;rw [if_neg (by rw [aG];omega)]
 have h5:∀ x,jQ [ay p] x=0:=fun x=>by
  unfold jQ;simp [vr]
 have h6:rtV (aP (aT p)) b=false:=by
  cases e:rtV (aP (aT p)) b with
  | false=>rfl
  | true =>
   have h7:=(pp h0 b).1 e;obtain ⟨y,hy⟩:=jb h0;rw [gy zo] at h7 hy;exact absurd h7 hy
 unfold lA;rw [h6,h4,h3,h5,h5,if_neg (by simp)];rfl
theorem xU(pa:Option Addr)(P pc:Nat)(p:List Rat)(K:Nat)(s t:RH)(a b:Rat)(T:Nat)(w:World)(h:bg w ⟨pa,P,pc⟩ p)(hP:P≤49)(h0:tz p≠[])(hok:OkC K (2*(P+1)) p)(hK:K≤12000000)(hK2:(P+1)*(K / 3)≤25000000)
 (hs:aA w s a)(ht:aA w t b)(za:Sz T a)(zb:Sz T b)(hT:1≤T)(hT3:T≤1000) :
  ar 83 [.slice pa P pc,IvV (s,t)] w (fun _:Unit=>.bool (lI (P+1) p a b)) (fun _ _=>True):=by
 obtain ⟨sn,sa,sl,sc,sb,sm,sd⟩:=s;obtain ⟨tn,ta,tl,tc,tb,tm,td⟩:=t;have HX:=Hi (Ext.refl w);have LP:=Hi h.lin;have HS:=Hi hs;have HT:=Hi ht;have ZA:=Hi za;have ZB:=Hi zb;have H0:=Hi h0;have HOK:=Hi hok;have HLn:=Hi h.len;simp only at HLn;clear h hs ht za zb h0 hok;unfold ar;go_enter Tryz.func83,Tryz.ntmps83
 go_upto_region 1 with fail
 refine nmA ?_;intro w1 hE B3 hz_w1 hr_w1;refine mV4 hE ?_ HX LP HS HT;clear HX LP HS HT;intro HX LP HS HT;have hs_w1:=hE.size;replace b_B3:=bX3 B3;obtain ⟨b3,hb3⟩:∃ b,b=w.heap.size:=⟨_,rfl⟩;have hw3:w.heap.size≤b3:=zo;rw [←hb3] at B3 ⊢;clear hb3 b_B3;go_wp2
 go_loopg [0] (P+1) (fun g v wr=>∃ (qa:Option Addr) (qn qc:Nat) (q:List Rat),v=.slice qa qn qc∧Ext w wr∧bg wr ⟨qa,qn,qc⟩ q∧aA wr ⟨sn,sa,sl,sc,sb,sm,sd⟩ a∧aA wr ⟨tn,ta,tl,tc,tb,tm,td⟩ b∧wr.heap[b3]?=some (.cells #[.bool sn,.slice sa sl sc,.slice sb sm sd,.bool tn,.slice ta tl tc,.slice tb tm td] 39 (0,0))∧tz q≠[]∧qn+1≤g∧qn≤P∧OkC K (2*g) q∧lI g q a b=lI (P+1) p a b)
 case atStart=>exact ⟨pa,P,pc,p,rfl,HX.out,LP.out.can,HS.out,HT.out,B3.out,H0.out,nXe _,nXe _,HOK.out,rfl⟩
 case round =>
  obtain ⟨qa,qn,qc,q,rfl,g1,g2,g3,g4,g5,g6,g7,g8,g9,g10⟩:=hrel;clear HX LP HS HT B3;have HX:=Hi g1;have LQ:=Hi g2.lin;have HS:=Hi g3;have HT:=Hi g4;have B3:=Hi g5;have HQ0:=Hi g6;have HQl:=Hi g2.len;simp only at HQl;obtain ⟨g0,rfl⟩:∃ g0,gk=g0+1:=⟨gk-1,zo⟩;rw [show 2*(g0+1)=2*g0+1+1 by omega] at g9;obtain ⟨k1,k2,k3,k4,k5⟩:=g9;have HK1:=Hi k1;have HK2:=Hi k2;have HK3:Hid (FrK K (aV q (derL q))):=Hi k3;have HK4:Hid (FrK K (sqfV (aV q (derL q)))):=Hi k4;have HK5:=Hi k5;have HV:=Hi g10;clear g1 g2 g3 g4 g5 g6 g10 k1 k2 k3 k4 k5;have hmul:(qn+1)*(K / 3)≤(P+1)*(K / 3):=nXh _ zo;have HMS:Hid (0<(aP (aT q)).length):=Hi (jW (fk HQ0.out).ne);replace b_B3:=bX3 B3;obtain ⟨o,ho⟩:∃ o,o=lA q a b:=⟨_,rfl⟩;have HO:=Hi ho;clear ho
  go_upto_region 1 with fail
  refine wpG 8 (fun opIx=>match opIx with
   | 1=>.spec (SH) (default) (CV) (fun x w'=>ChK w' x (aP (aT q)) K)
   | 6=>sU (.int .i64 o)
   | _=>.quiet) (fun|6=>[1]|_=>[]) fun w0 he0 hz0 hc0 hf0=>?_
  refine wps he0 (fun w1 hW hG=>?_) fun x20=>?_
  ·exact spc [.slice qa qn qc] Tryz.func129 (qH qa qn qc q K _ (LQ.out.can.ext hW) zo HQ0.out HK1.out hK zo HK2.out)
  refine qZ ?_;refine wps he0 (fun w1 hW hG=>?_) fun x21=>?_
  ·have g20:=gS (hG 1 dZ);exact spc [CV x20,RH.v ⟨sn,sa,sl,sc,sb,sm,sd⟩,RH.v ⟨tn,ta,tl,tc,tb,tm,td⟩] Tryz.func137 ((by rw [HO.out];exact qI x20 (aP (aT q)) K ⟨sn,sa,sl,sc,sb,sm,sd⟩ ⟨tn,ta,tl,tc,tb,tm,td⟩ a b T _ g20 HMS.out (HS.out.ext hW) (HT.out.ext hW) ZA.out ZB.out hT hT3))
  refine qZ ?_;refine aq ?_;intro w2 hI;have hE:=he0.out.trans hI.ext;have G20:=gT (hI.facts 1);clear hI he0 hz0 hc0 hf0;refine mV5 hE ?_ HX B3 LQ HS HT;clear HX B3 LQ HS HT;intro HX B3 LQ HS HT;have hs_w2:=hE.size;replace b_B3:=bX3 B3;simp only [pD];clear G20;have HST:Hid (lI (g0+1) q a b=if o=0 then false else if lA (aV q (derL q)) a b≠o then true else lI g0 (aV (aV q (derL q)) (derL (aV q (derL q)))) a b):=Hi (by rw [HO.out];rfl);by_cases ho0:o=0
  case pos =>
   subst ho0;have HE:Hid (lI (P+1) p a b=false):=Hi (by rw [←HV.out,HST.out,if_pos rfl]);go_wp2
   go_ret
   exact ⟨(),by rw [HE.out];rfl,HX.out,trivial⟩
  have hob:(o == 0)=false:=by rw [nXs];exact ho0
  have HQ2:Hid (2≤(tz q).length):=Hi (wR HQ0.out (by rw [←HO.out];exact ho0));have HG0:Hid (tz (aV q (derL q))≠[]):=Hi (jh HQ0.out);have HGl:Hid ((aV q (derL q)).length<qn):=Hi (by have:=AH HQ2.out;have:=HQl.out;omega);obtain ⟨S17,D17,hS17,hD17,hDW17,hF17,hSK17⟩:=HK1.out;have HF17:Hid (FrL S17 D17 q):=Hi hF17;have hs17:=KZ.small hSK17;have HSK17:Hid (GZ K (S17+1) q (tz (derL q))):=Hi (yJ hD17 hF17 (by have:=LQ.out.len;simp only at this;omega) HQ0.out hSK17);have HSz17:Hid (SzL S17 q):=Hi (hF17.sz hS17 hD17 hDW17);have hDV17:D17<W32 ^ (S17+1):=nXn hDW17 (nXp aI zo);have HDF17:Hid (∀ x ∈ tz (derL q),Fr (S17+1) D17 x):=Hi (iH hF17 (by have:=LQ.out.len;simp only at this;omega));have HDl17:Hid ((tz (derL q)).length+1≤qn):=Hi (by have:=ia HQ0.out;have:=LQ.out.len;simp only at this;omega);clear hF17 hSK17
  go_wp2_with fail
  refine cM (i9 qa qn qc q _ (LQ.out.can.raw HSz17.out zo) zo (HSz17.out.mono zo)) fun x17 w17 hE G17=>?_
  refine mV5 hE ?_ HX B3 LQ HS HT;clear HX B3 LQ HS HT;intro HX B3 LQ HS HT;have hs_w17:=hE.size;replace b_B3:=bX3 B3;obtain ⟨da17,dn17,dc17⟩:=x17;have HD17:Hid (LIn w17 ⟨da17,dn17,dc17⟩ (tz (derL q)) 0 w17.heap.size):=Hi G17.out.can.lin;clear G17;have hdn17:dn17+1≤qn:=by have h1:=HD17.out.len;have h2:=HDl17.out;simp only at h1;omega
  simp only [SH.v]
  go_wp2_with fail
  refine cM (qY qa da17 qn qc dn17 dc17 q (tz (derL q)) (S17+1) D17 D17 _ LQ.out.can HD17.out.can zo zo zo hD17 hDV17 hD17 hDV17 (HF17.out.mono zo) HDF17.out K HSK17.out zo) fun x18 w18 hE G18=>?_
  refine mV6 hE ?_ HX B3 LQ HS HT HD17;clear HX B3 LQ HS HT HD17;intro HX B3 LQ HS HT HD17;have hs_w18:=hE.size;replace b_B3:=bX3 B3;rw [ni] at G18;obtain ⟨ga18,gn18,gc18⟩:=x18;have LG:=Hi G18.out.1.lin;clear G18 HF17 HDF17 HSz17 HSK17;clear HD17;simp only [SH.v];have hgn:gn18<qn:=by have h1:=LG.out.len;have h2:=HGl.out;simp only at h1;omega
  have hmul2:(gn18+1)*(K / 3)≤(P+1)*(K / 3):=nXh _ zo;have HMS2:Hid (0<(aP (aT (aV q (derL q)))).length):=Hi (jW (fk HG0.out).ne);obtain ⟨r,hr⟩:∃ r,r=aV q (derL q):=⟨_,rfl⟩;rw [←hr] at LG HG0 HMS2 HK3 HK4 HK5 HST;clear hr HGl HMS;obtain ⟨o2,ho2⟩:∃ o,o=lA r a b:=⟨_,rfl⟩;have HO2:=Hi ho2;rw [←ho2] at HST;clear ho2;clear LQ
  go_upto_region 5 with fail
  refine wpG 9 (fun opIx=>match opIx with
   | 1=>.spec (SH) (default) (CV) (fun x w'=>ChK w' x (aP (aT r)) K)
   | 6=>sU (.int .i64 o2)
   | _=>.quiet) (fun|6=>[1]|_=>[]) fun w0 he0 hz0 hc0 hf0=>?_
  refine wps he0 (fun w1 hW hG=>?_) fun x30=>?_
  ·exact spc [.slice ga18 gn18 gc18] Tryz.func129 (qH ga18 gn18 gc18 r K _ (LG.out.can.ext hW) zo HG0.out HK3.out hK zo HK4.out)
  refine qZ ?_;refine wps he0 (fun w1 hW hG=>?_) fun x31=>?_
  ·have g30:=gS (hG 1 dZ);exact spc [CV x30,RH.v ⟨sn,sa,sl,sc,sb,sm,sd⟩,RH.v ⟨tn,ta,tl,tc,tb,tm,td⟩] Tryz.func137 ((by rw [HO2.out];exact qI x30 (aP (aT r)) K ⟨sn,sa,sl,sc,sb,sm,sd⟩ ⟨tn,ta,tl,tc,tb,tm,td⟩ a b T _ g30 HMS2.out (HS.out.ext hW) (HT.out.ext hW) ZA.out ZB.out hT hT3))
  refine qZ ?_;refine aq ?_;intro w3 hI;have hE:=he0.out.trans hI.ext;have G30:=gT (hI.facts 1);clear hI he0 hz0 hc0 hf0;refine mV5 hE ?_ HX B3 LG HS HT;clear HX B3 LG HS HT;intro HX B3 LG HS HT;have hs_w3:=hE.size;replace b_B3:=bX3 B3;simp only [pD];clear G30;by_cases ho3:o2=o
  case neg =>
   have hb1:(o2 == o)=false:=by rw [nXs];exact ho3
   have hb2:(o2 != o)=true:=by rw [bne,hb1];rfl
   have HE:Hid (lI (P+1) p a b=true):=Hi (by rw [←HV.out,HST.out,if_neg ho0,if_pos ho3]);go_wp2
   go_ret
   exact ⟨(),by rw [HE.out];rfl,HX.out,trivial⟩
  have HE:Hid (lI g0 (aV r (derL r)) a b=lI (P+1) p a b):=Hi (by rw [←HV.out,HST.out,if_neg ho0,if_neg (fun h=>h ho3)]);subst ho3;have HR0:Hid (tz (aV r (derL r))≠[]):=Hi (jh HG0.out);have HRl:Hid ((aV r (derL r)).length≤gn18):=Hi (by have h1:=pQ HG0.out;have h2:=LG.out.len;simp only at h2;omega);obtain ⟨S30,D30,hS30,hD30,hDW30,hF30,hSK30⟩:=HK3.out;have HF30:Hid (FrL S30 D30 r):=Hi hF30;have hs30:=KZ.small hSK30;have HSK30:Hid (GZ K (S30+1) r (tz (derL r))):=Hi (yJ hD30 hF30 (by have:=LG.out.len;simp only at this;omega) HG0.out hSK30);have HSz30:Hid (SzL S30 r):=Hi (hF30.sz hS30 hD30 hDW30);have hDV30:D30<W32 ^ (S30+1):=nXn hDW30 (nXp aI zo);have HDF30:Hid (∀ x ∈ tz (derL r),Fr (S30+1) D30 x):=Hi (iH hF30 (by have:=LG.out.len;simp only at this;omega));have HDl30:Hid ((tz (derL r)).length+1≤gn18):=Hi (by have:=ia HG0.out;have:=LG.out.len;simp only at this;omega);clear hF30 hSK30
  go_wp2_with fail
  refine cM (i9 ga18 gn18 gc18 r _ (LG.out.can.raw HSz30.out zo) zo (HSz30.out.mono zo)) fun x30 w30 hE G30=>?_
  refine mV5 hE ?_ HX B3 LG HS HT;clear HX B3 LG HS HT;intro HX B3 LG HS HT;have hs_w30:=hE.size;replace b_B3:=bX3 B3;obtain ⟨da30,dn30,dc30⟩:=x30;have HD30:Hid (LIn w30 ⟨da30,dn30,dc30⟩ (tz (derL r)) 0 w30.heap.size):=Hi G30.out.can.lin;clear G30;have hdn30:dn30+1≤gn18:=by have h1:=HD30.out.len;have h2:=HDl30.out;simp only at h1;omega
  simp only [SH.v]
  go_wp2_with fail
  refine cM (qY ga18 da30 gn18 gc18 dn30 dc30 r (tz (derL r)) (S30+1) D30 D30 _ LG.out.can HD30.out.can zo zo zo hD30 hDV30 hD30 hDV30 (HF30.out.mono zo) HDF30.out K HSK30.out zo) fun x31 w31 hE G31=>?_
  refine mV6 hE ?_ HX B3 LG HS HT HD30;clear HX B3 LG HS HT HD30;intro HX B3 LG HS HT HD30;have hs_w31:=hE.size;replace b_B3:=bX3 B3;rw [ni] at G31;obtain ⟨ga31,gn31,gc31⟩:=x31;have LR:=Hi G31.out.1.lin;clear G31 HF30 HDF30 HSz30 HSK30;clear HD30;simp only [SH.v];have hrn:gn31≤gn18:=by have h1:=LR.out.len;have h2:=HRl.out;simp only at h1;omega
  go_wp2
  go_roundg g0
  case measure=>omega
  case rel=>exact ⟨ga31,gn31,gc31,_,rfl,HX.out,LR.out.can,HS.out,HT.out,B3.out,HR0.out,zo,zo,HK5.out,HE.out⟩
structure PoK (K P:Nat) (p:List Rat):Prop where
 tz:tz p=p
 fr:FrK K p
 sq:FrK K (sqfV p)
 ok:OkC K (2*(P+1)) (ay p)
def CS(n:Nat)(w:World)(x:SH)(l:List Rat):Prop:=bg w x l∧x.n=n
theorem CS.ext{n:Nat}{w w':World}{x:SH}{l:List Rat}(h:CS n w x l)(he:Ext w w'):CS n w' x l:=⟨h.1.ext he,h.2⟩
instance {n:Nat} {w w':World} {x:SH} {l:List Rat}:Go.Front.Mv w w' (CS n w x l) (CS n w' x l):=⟨fun e h=>CS.ext h e⟩

theorem zH{a b:Rat}:cG a b=0↔a=b:=by
 unfold cG;split
 ·constructor
  ·intro h;omega
  ·intro h;subst h;exfalso;grind
 ·split
  ·exact ⟨fun _=>by assumption,fun _=>rfl⟩
  ·constructor
   ·intro h;omega
   ·intro h;contradiction
theorem AR{p:List Rat}(h:p=[]):tw p=3:=by subst h;rfl
theorem AS{p:List Rat}(h:tz p≠[])(hl:p.length≤49):tw p=0:=by unfold tw;rw [if_neg (by have:=aj p;omega),if_neg h]
theorem qF(pa:Option Addr)(P pc:Nat)(p:List Rat)(K:Nat)(s t:RH)(a b:Rat)(T:Nat)(w:World)(h:bg w ⟨pa,P,pc⟩ p)(hP:P≤49)(hk:PoK K P p)(hK:K≤12000000)(hK2:(P+1)*(K / 3)≤25000000)
 (hs:aX w s a)(ht:aX w t b)(za:Sz T a)(zb:Sz T b)(hT:1≤T)(hT3:T≤1000) :
  ar 38 [.slice pa P pc,IvV (s,t)] w (fun _:Unit=>.tuple #[.bool (nngV p (loV a b) (hiV a b)),.int .i64 0]) (fun _ _=>True):=by
 obtain ⟨sn,sa,sl,sc,sb,sm,sd⟩:=s;obtain ⟨tn,ta,tl,tc,tb,tm,td⟩:=t;have HX:=Hi (Ext.refl w);have LP:=Hi h.lin;have HS:=Hi hs;have HT:=Hi ht;have hlen:=h.len;simp only at hlen;have HKp:=Hi hk.fr;have HKo:=Hi hk.ok;have HTZ:=Hi hk.tz;obtain ⟨S,D,hS,hD,hDW,hF,hSK⟩:=hk.fr;have hSs:=KZ.small hSK;have HF:=Hi hF;have HSz:Hid (SzL K p):=Hi ((hF.sz hS hD hDW).mono zo);have HSW:Hid (∀ y ∈ ay p,Wz S y):=Hi (d9 (fun x hx=>hF x (fU hx)) hD);have HSl:Hid ((ay p).length=P):=Hi (by rw [aG,hk.tz,hlen]);have ZA:Hid (Sz T (loV a b)):=Hi (by rcases oo a b with e|e <;> rw [e] <;> assumption);have ZB:Hid (Sz T (hiV a b)):=Hi (by rcases oD a b with e|e <;> rw [e] <;> assumption);obtain ⟨lo,hlo⟩:∃ lo,lo=loV a b:=⟨_,rfl⟩;obtain ⟨hi,hhi⟩:∃ hi,hi=hiV a b:=⟨_,rfl⟩;rw [←hlo] at ZA;rw [←hhi] at ZB;have HLO:=Hi hlo;have HHI:=Hi hhi;have HLn:=Hi hlen;rw [←hlo,←hhi];clear h hs ht hk za zb hlo hhi hF hSK hlen;unfold ar;go_enter Tryz.func38,Tryz.ntmps38
 go_upto_region 1 with fail
 refine nmA ?_;intro w1 hE B3 hz_w1 hr_w1;refine mV4 hE ?_ HX LP HS HT;clear HX LP HS HT;intro HX LP HS HT;have hs_w1:=hE.size;replace b_B3:=bX3 B3
 go_wp2_with fail
 refine cM (mI pa P pc p _ (LP.out.can.raw HSz.out zo)) fun x8 w8 hE _=>?_
 refine mV5 hE ?_ B3 HX LP HS HT;clear B3 HX LP HS HT;intro B3 HX LP HS HT;have hs_w8:=hE.size;replace b_B3:=bX3 B3;by_cases h0:P=0
 case pos =>
  subst h0;have hp:p=[]:=nXj.1 HLn.out;have HE:Hid (nngV p lo hi=true):=Hi (by rw [hp];rfl);rw [AR hp];clear hp;go_wp2;exact nXa (v:=.tuple #[.bool (nngV p lo hi),.int .i64 0]) (by rw [HE.out];simp [results,Tryz.results38,go_sem]) rfl ⟨(),rfl,HX.out,trivial⟩
 have hp:tz p≠[]:=fun h=>h0 (by rw [←HLn.out,←HTZ.out,h];rfl)
 have H0:=Hi hp;rw [AS hp (by rw [HLn.out];exact hP)];clear hp;have HNV:Hid (nngV p lo hi=if Sg.sg (evV (ay p) lo)<0∨Sg.sg (evV (ay p) hi)<0 then false else if lo=hi then true else decide (0<jI (P+1) (ay p) lo) && ! lI (P+1) (ay p) lo hi):=Hi (by
  have e:(tz p).length=P:=by rw [HTZ.out,HLn.out]
  unfold nngV;rw [if_neg H0.out,e])
 go_wp2_with fail
 refine cM (cE ⟨sn,sa,sl,sc,sb,sm,sd⟩ ⟨tn,ta,tl,tc,tb,tm,td⟩ a b _ HS.out HT.out) fun x14 w14 hE G14=>?_
 refine mV5 hE ?_ B3 HX LP HS HT;clear B3 HX LP HS HT;intro B3 HX LP HS HT;have hs_w14:=hE.size;replace b_B3:=bX3 B3;obtain ⟨⟨ln,la,ll,lc,lb,lm,ld⟩,⟨hn,ha,hl,hc,hb,hm,hd⟩⟩:=x14;rw [←HLO.out,←HHI.out] at G14;have HL:=Hi G14.out.1;have HH:=Hi G14.out.2;clear G14;clear HS;clear HT
 go_upto_region 7 with fail
 refine dC B3.out rfl ?_;intro w15 T;replace HX:=Hi (T.ext HX.out zo);replace LP:=Hi (LP.out.put T zo);replace B3:=Hi (T.bx);replace HL:=Hi (HL.out.keep T.keep);replace HH:=Hi (HH.out.keep T.keep);have hs_w15:=nle T.size;have hr_w15:=nle T.size.symm;clear T;replace b_B3:=bX3 B3
 go_wp2_with fail
 refine cM (iX pa P pc p S D _ LP.out.can zo hS zo hD hDW HF.out) fun x16 w16 hE G16=>?_
 refine mV5 hE ?_ HX LP B3 HL HH;clear HX LP B3 HL HH;intro HX LP B3 HL HH;have hs_w16:=hE.size;replace b_B3:=bX3 B3;obtain ⟨Lq,hLq,hLq2,hxq,hrq⟩:=cJ.lin G16.out (by have:=HSl.out;omega);rw [HSl.out] at hxq;subst hxq;have HQ:=Hi hrq;clear hrq G16;have HS0:Hid (tz (ay p)≠[]):=Hi (by rw [bq];exact fun h=>H0.out (spl_ne.1 h));obtain ⟨q,hq⟩:∃ q,q=ay p:=⟨_,rfl⟩;have HTQ:Hid (tz q=q):=Hi (by rw [hq];exact bq p);rw [←hq] at HQ HSW HKo HNV HS0 HSl;clear hq;clear LP
 go_wp2_with fail
 refine cM (kj (some ⟨Lq,0,none⟩) P P q ⟨ln,la,ll,lc,lb,lm,ld⟩ lo S T _ HQ.out.can HL.out zo HSW.out ZA.out hT hS zo hT3) fun x20 w20 hE _=>?_
 refine mV5 hE ?_ HX B3 HL HH HQ;clear HX B3 HL HH HQ;intro HX B3 HL HH HQ;have hs_w20:=hE.size;replace b_B3:=bX3 B3;obtain ⟨s1,hs1⟩:∃ s1,s1=Sg.sg (evV q lo):=⟨_,rfl⟩;rw [←hs1] at HNV ⊢;clear hs1;by_cases hn1:s1<0
 case pos =>
  have HE:Hid (nngV p lo hi=false):=Hi (by rw [HNV.out,if_pos (Or.inl hn1)]);go_wp2;exact nXa (v:=.tuple #[.bool (nngV p lo hi),.int .i64 0]) (by rw [HE.out];simp [results,Tryz.results38,go_sem]) rfl ⟨(),rfl,HX.out,trivial⟩
 go_wp2_with fail
 refine cM (kj (some ⟨Lq,0,none⟩) P P q ⟨hn,ha,hl,hc,hb,hm,hd⟩ hi S T _ HQ.out.can HH.out zo HSW.out ZB.out hT hS zo hT3) fun x26 w26 hE _=>?_
 refine mV5 hE ?_ HX B3 HL HH HQ;clear HX B3 HL HH HQ;intro HX B3 HL HH HQ;have hs_w26:=hE.size;replace b_B3:=bX3 B3;obtain ⟨s2,hs2⟩:∃ s2,s2=Sg.sg (evV q hi):=⟨_,rfl⟩;rw [←hs2] at HNV ⊢;clear hs2;by_cases hn2:s2<0
 case pos =>
  have HE:Hid (nngV p lo hi=false):=Hi (by rw [HNV.out,if_pos (Or.inr hn2)]);go_wp2;exact nXa (v:=.tuple #[.bool (nngV p lo hi),.int .i64 0]) (by rw [HE.out];simp [results,Tryz.results38,go_sem]) rfl ⟨(),rfl,HX.out,trivial⟩
 rw [if_neg (fun h=>h.elim (fun k=>by omega) (fun k=>by omega))] at HNV
 go_wp2_with fail
 refine cM (bS ⟨ln,la,ll,lc,lb,lm,ld⟩ ⟨hn,ha,hl,hc,hb,hm,hd⟩ lo hi _ (HL.out.raw ZA.out zo) (HH.out.raw ZB.out zo)) fun x33 w33 hE _=>?_
 refine mV5 hE ?_ HX B3 HL HH HQ;clear HX B3 HL HH HQ;intro HX B3 HL HH HQ;have hs_w33:=hE.size;replace b_B3:=bX3 B3;obtain ⟨c,hcc⟩:∃ c,c=cG lo hi:=⟨_,rfl⟩;have HCC:Hid (c=0↔lo=hi):=Hi (by rw [hcc];exact zH);rw [←hcc];clear hcc;by_cases hc0:c=0
 case pos =>
  have HE:Hid (nngV p lo hi=true):=Hi (by rw [HNV.out,if_pos (HCC.out.1 hc0)]);subst hc0;go_wp2;exact nXa (v:=.tuple #[.bool (nngV p lo hi),.int .i64 0]) (by rw [HE.out];simp [results,Tryz.results38,go_sem]) rfl ⟨(),rfl,HX.out,trivial⟩
 have hcb:(c == 0)=false:=by rw [nXs];exact hc0
 rw [if_neg (fun h=>hc0 (HCC.out.2 h))] at HNV
 go_wp2_with fail
 refine cM (xI (some ⟨Lq,0,none⟩) P P q ⟨ln,la,ll,lc,lb,lm,ld⟩ lo S T _ HQ.out.can zo HTQ.out HSW.out hS zo HL.out ZA.out hT hT3) fun x38 w38 hE _=>?_
 refine mV5 hE ?_ HX B3 HL HH HQ;clear HX B3 HL HH HQ;intro HX B3 HL HH HQ;have hs_w38:=hE.size;replace b_B3:=bX3 B3;have hsI:=De (P+1) q lo;obtain ⟨s3,hs3⟩:∃ s3,s3=jI (P+1) q lo:=⟨_,rfl⟩;rw [←hs3] at HNV hsI ⊢;clear hs3;by_cases hp3:0<s3
 case neg =>
  have HE:Hid (nngV p lo hi=false):=Hi (by rw [HNV.out,decide_eq_false hp3];rfl);go_wp2;exact nXa (v:=.tuple #[.bool (nngV p lo hi),.int .i64 0]) (by rw [HE.out];simp [results,Tryz.results38,go_sem]) rfl ⟨(),rfl,HX.out,trivial⟩
 go_wp2_with fail
 refine cM (xU (some ⟨Lq,0,none⟩) P P q K ⟨ln,la,ll,lc,lb,lm,ld⟩ ⟨hn,ha,hl,hc,hb,hm,hd⟩ lo hi T _ HQ.out.can hP HS0.out HKo.out hK hK2 HL.out HH.out ZA.out ZB.out hT hT3) fun x43 w43 hE _=>?_
 refine mV5 hE ?_ HX B3 HL HH HQ;clear HX B3 HL HH HQ;intro HX B3 HL HH HQ;have hs_w43:=hE.size;replace b_B3:=bX3 B3;obtain ⟨r,hr⟩:∃ r,r=lI (P+1) q lo hi:=⟨_,rfl⟩;rw [←hr,decide_eq_true hp3] at HNV;rw [←hr];clear hr;have HE:Hid (nngV p lo hi=!r):=Hi (by rw [HNV.out];rfl);cases r
 ·go_wp2;exact nXa (v:=.tuple #[.bool (nngV p lo hi),.int .i64 0]) (by rw [HE.out];simp [results,Tryz.results38,go_sem]) rfl ⟨(),rfl,HX.out,trivial⟩
 ·go_wp2;exact nXa (v:=.tuple #[.bool (nngV p lo hi),.int .i64 0]) (by rw [HE.out];simp [results,Tryz.results38,go_sem]) rfl ⟨(),rfl,HX.out,trivial⟩
theorem xK(pa:Option Addr)(P pc:Nat)(p:List Rat)(K:Nat)(s t:RH)(a b:Rat)(T:Nat)(w:World)(h:bg w ⟨pa,P,pc⟩ p)(hP:P≤49)(hk:PoK K P p)(hK:K≤12000000)(hK2:(P+1)*(K / 3)≤25000000)
 (hs:aX w s a)(ht:aX w t b)(za:Sz T a)(zb:Sz T b)(hT:1≤T)(hT3:T≤1000) :
  ar 37 [.slice pa P pc,IvV (s,t)] w (fun _:Unit=>.tuple #[.bool (posV p (loV a b) (hiV a b)),.int .i64 0]) (fun _ _=>True):=by
 obtain ⟨sn,sa,sl,sc,sb,sm,sd⟩:=s;obtain ⟨tn,ta,tl,tc,tb,tm,td⟩:=t;have HX:=Hi (Ext.refl w);have LP:=Hi h.lin;have HS:=Hi hs;have HT:=Hi ht;have hlen:=h.len;simp only at hlen;have HKp:=Hi hk.fr;have HKs:=Hi hk.sq;have HTZ:=Hi hk.tz;obtain ⟨S,D,hS,hD,hDW,hF,hSK⟩:=hk.fr;have hSs:=KZ.small hSK;have HF:=Hi hF;have HSz:Hid (SzL K p):=Hi ((hF.sz hS hD hDW).mono zo);have HSW:Hid (∀ y ∈ ay p,Wz S y):=Hi (d9 (fun x hx=>hF x (fU hx)) hD);have HSl:Hid ((ay p).length=P):=Hi (by rw [aG,hk.tz,hlen]);have ZA:Hid (Sz T (loV a b)):=Hi (by rcases oo a b with e|e <;> rw [e] <;> assumption);have ZB:Hid (Sz T (hiV a b)):=Hi (by rcases oD a b with e|e <;> rw [e] <;> assumption);have HLH:Hid (loV (loV a b) (hiV a b)=loV a b∧hiV (loV a b) (hiV a b)=hiV a b):=Hi ⟨jD (sV a b),je (sV a b)⟩;obtain ⟨lo,hlo⟩:∃ lo,lo=loV a b:=⟨_,rfl⟩;obtain ⟨hi,hhi⟩:∃ hi,hi=hiV a b:=⟨_,rfl⟩;rw [←hlo] at ZA;rw [←hhi] at ZB;rw [←hlo,←hhi] at HLH;have HLO:=Hi hlo;have HHI:=Hi hhi;have HLn:=Hi hlen;rw [←hlo,←hhi];clear h hs ht hk za zb hlo hhi hF hSK hlen;unfold ar;go_enter Tryz.func37,Tryz.ntmps37
 go_upto_region 1 with fail
 refine nmA ?_;intro w1 hE B3 hz_w1 hr_w1;refine mV4 hE ?_ HX LP HS HT;clear HX LP HS HT;intro HX LP HS HT;have hs_w1:=hE.size;replace b_B3:=bX3 B3
 go_wp2_with fail
 refine cM (mI pa P pc p _ (LP.out.can.raw HSz.out zo)) fun x9 w9 hE _=>?_
 refine mV5 hE ?_ B3 HX LP HS HT;clear B3 HX LP HS HT;intro B3 HX LP HS HT;have hs_w9:=hE.size;replace b_B3:=bX3 B3;by_cases h0:P=0
 case pos =>
  subst h0;have hp:p=[]:=nXj.1 HLn.out;have HE:Hid (posV p lo hi=false):=Hi (by rw [hp];rfl);rw [AR hp];clear hp;go_wp2;exact nXa (v:=.tuple #[.bool (posV p lo hi),.int .i64 0]) (by rw [HE.out];simp [results,Tryz.results37,go_sem]) rfl ⟨(),rfl,HX.out,trivial⟩
 have hp:tz p≠[]:=fun h=>h0 (by rw [←HLn.out,←HTZ.out,h];rfl)
 have H0:=Hi hp;rw [AS hp (by rw [HLn.out];exact hP)];clear hp;have HNV:Hid (posV p lo hi=if Sg.sg (evV (ay p) lo)≤0 then false else decide (zG p lo hi=0)):=Hi (by
  unfold posV;rw [if_neg H0.out])
 go_wp2_with fail
 refine cM (cE ⟨sn,sa,sl,sc,sb,sm,sd⟩ ⟨tn,ta,tl,tc,tb,tm,td⟩ a b _ HS.out HT.out) fun x15 w15 hE G15=>?_
 refine mV5 hE ?_ B3 HX LP HS HT;clear B3 HX LP HS HT;intro B3 HX LP HS HT;have hs_w15:=hE.size;replace b_B3:=bX3 B3;obtain ⟨⟨ln,la,ll,lc,lb,lm,ld⟩,⟨hn,ha,hl,hc,hb,hm,hd⟩⟩:=x15;rw [←HLO.out,←HHI.out] at G15;have HL:=Hi G15.out.1;have HH:=Hi G15.out.2;clear G15;clear HS;clear HT
 go_upto_region 7 with fail
 refine dC B3.out rfl ?_;intro w16 T;replace HX:=Hi (T.ext HX.out zo);replace LP:=Hi (LP.out.put T zo);replace B3:=Hi (T.bx);replace HL:=Hi (HL.out.keep T.keep);replace HH:=Hi (HH.out.keep T.keep);have hs_w16:=nle T.size;have hr_w16:=nle T.size.symm;clear T;replace b_B3:=bX3 B3;obtain ⟨s1,hs1⟩:∃ s1,s1=Sg.sg (evV (ay p) lo):=⟨_,rfl⟩;have HS1:=Hi hs1;rw [←hs1] at HNV;clear hs1;refine wpG 6 (fun opIx=>match opIx with
  | 1=>.spec (SH) (default) (SH.v) (fun x w'=>CS P w' x (ay p))
  | 4=>sU (.int .i64 s1)
  | _=>.quiet) (fun|4=>[1]|_=>[]) fun w0 he0 hz0 hc0 hf0=>?_
 refine wps he0 (fun w1 hW hG=>?_) fun x20=>?_
 ·exact spc [.slice pa P pc] Tryz.func79 ((iX pa P pc p S D _ (LP.out.can.ext hW) zo hS zo hD hDW HF.out).wk (fun x w' _ h=>⟨let ⟨_,_,_,_,h4⟩:=h.lin (by have:=HSl.out;omega);h4.can,by have h5:=(let ⟨_,_,_,_,h4⟩:=h.lin (by have:=HSl.out;omega);h4.can.len);rw [←h5];exact HSl.out⟩))
 refine qZ ?_;refine wps he0 (fun w1 hW hG=>?_) fun x21=>?_
 ·have g20:=gS (hG 1 dZ);exact spc [x20.v,RH.v ⟨ln,la,ll,lc,lb,lm,ld⟩] Tryz.func78 ((by rw [HS1.out];exact kj x20.a x20.n x20.c (ay p) ⟨ln,la,ll,lc,lb,lm,ld⟩ lo S T _ g20.1 (HL.out.ext hW) (by rw [g20.2];omega) HSW.out ZA.out hT hS zo hT3))
 refine qZ ?_;refine aq ?_;intro w17 hI;have hE:=he0.out.trans hI.ext;have G20:=gT (hI.facts 1);clear hI he0 hz0 hc0 hf0;refine mV5 hE ?_ HX B3 HH LP HL;clear HX B3 HH LP HL;intro HX B3 HH LP HL;have hs_w17:=hE.size;replace b_B3:=bX3 B3;simp only [pD];clear G20;by_cases hn1:s1≤0
 case pos =>
  have HE:Hid (posV p lo hi=false):=Hi (by rw [HNV.out,if_pos hn1]);go_wp2;exact nXa (v:=.tuple #[.bool (posV p lo hi),.int .i64 0]) (by rw [HE.out];simp [results,Tryz.results37,go_sem]) rfl ⟨(),rfl,HX.out,trivial⟩
 rw [if_neg (fun h=>by omega)] at HNV
 go_wp2_with fail
 refine cM (sG pa P pc p K ⟨ln,la,ll,lc,lb,lm,ld⟩ ⟨hn,ha,hl,hc,hb,hm,hd⟩ lo hi T _ LP.out.can hP H0.out HKp.out hK hK2 HKs.out (HL.out.raw ZA.out zo) (HH.out.raw ZB.out zo) ZA.out ZB.out hT hT3) fun x25 w25 hE _=>?_
 refine mV5 hE ?_ HX B3 HH LP HL;clear HX B3 HH LP HL;intro HX B3 HH LP HL;have hs_w25:=hE.size;replace b_B3:=bX3 B3;rw [HLH.out.1,HLH.out.2];obtain ⟨c,hcc⟩:∃ c,c=zG p lo hi:=⟨_,rfl⟩;rw [←hcc] at HNV ⊢;clear hcc;by_cases hc0:c=0
 ·have HE:Hid (posV p lo hi=true):=Hi (by rw [HNV.out,decide_eq_true hc0]);subst hc0;go_wp2;exact nXa (v:=.tuple #[.bool (posV p lo hi),.int .i64 0]) (by rw [HE.out];simp [results,Tryz.results37,go_sem]) rfl ⟨(),rfl,HX.out,trivial⟩
 ·have HE:Hid (posV p lo hi=false):=Hi (by rw [HNV.out,decide_eq_false hc0]);have hcb:(c == 0)=false:=by rw [nXs];exact hc0
  go_wp2;exact nXa (v:=.tuple #[.bool (posV p lo hi),.int .i64 0]) (by rw [HE.out];simp [results,Tryz.results37,go_sem]) rfl ⟨(),rfl,HX.out,trivial⟩
end Go.Proofs.YtkcpmclnocmalaaGreat
/- The divisors of a polynomial with whole coefficients are small: Gauss's lemma, and a polynomial from its values. Plain facts. -/
namespace Go.Proofs.YtkcpmclnocmalaaGreat.Sg
open Go.RowKit Go.Front Go.Num Go.Stab Go.Proofs.YtkcpmclnocmalaaGreat Sie
theorem Dt{g a b:Rat}(ha:Mu g a)(hb:Mu g b)(h0:a≠0∨b≠0):Mu g (iB a b):=by
 have habs:∀ {x:Rat},Mu g x→Mu g x.abs:=fun {x} ⟨z,hz,e⟩=>by
  rcases oV x with k|k
  ·exact ⟨z,hz,by rw [k,e]⟩
  ·exact ⟨-z,hz.neg,by rw [k,e];grind⟩
 unfold iB;by_cases ha0:a=0
 ·rw [if_pos ha0];exact habs hb
 ·rw [if_neg ha0];by_cases hb0:b=0
  ·rw [if_pos hb0];exact ha
  ·rw [if_neg hb0];refine habs ?_;obtain ⟨z,hz,rfl⟩:=ha;obtain ⟨y,hy,rfl⟩:=hb;have hg:g≠0:=fun h=>ha0 (by rw [h];grind)
   have hz0:z≠0:=fun h=>ha0 (by rw [h];grind)
   have hy0:y≠0:=fun h=>hb0 (by rw [h];grind)
   have e:z*g / (y*g)=z / y:=nl hg z hy0;rw [e];have h1:=low (z / y);have h2:=aQ (a:=z) hy0;have hq0:z / y≠0:=fun h=>hz0 (by rw [←h2,h];grind)
   have hN:=me hq0;rw [hz.eq,hy.eq] at h1 h2;rw [hz.eq,hy.eq] at hN ⊢;generalize hq:(z.num:Rat) / (y.num:Rat)=q at *
   -- z den=y num
   have h3:z.num*q.den=y.num*q.num:=by
    have:(z.num:Rat)*(q.den:Rat)=(y.num:Rat)*(q.num:Rat):=by rw [←h1,←h2];grind
    have h4:((z.num*q.den:Int):Rat)=((y.num*q.num:Int):Rat):=by
     rw [Rat.intCast_mul,Rat.intCast_mul,Rat.intCast_natCast];exact this
    exact Rat.intCast_inj.1 h4
   have hd:q.num ∣ z.num:=by
    have h4:q.num ∣ z.num*q.den:=⟨y.num,by rw [h3,Int.mul_comm]⟩;have h5:q.num.natAbs ∣ z.num.natAbs*q.den:=by
     have:=Int.natAbs_dvd_natAbs.2 h4
     rwa [Int.natAbs_mul,nYi] at this
    exact Int.natAbs_dvd_natAbs.1 (Nat.Coprime.dvd_of_dvd_mul_right q.reduced h5)
   obtain ⟨k,hk⟩:=hd;refine ⟨(k:Rat),Wh.int k,?_⟩;have h6:=aQ (a:=(z.num:Rat)*g) hN;have h7:(z.num:Rat)=(q.num:Rat)*(k:Rat):=by rw [hk,Rat.intCast_mul]
   have h8:((z.num:Rat)*g / (q.num:Rat)-(k:Rat)*g)*(q.num:Rat)=0:=by rw [Rat.sub_eq_add_neg,Rat.add_mul,h6,h7];grind
   rcases nXr.1 h8 with h|h
   ·grind
   ·exact absurd h hN
theorem BP{g:Rat}(l:List Rat)(h:∀ x ∈ l,Mu g x):Mu g (bj l):=by
 induction l using snoc_ind with
 | h0=>exact Mu.zero g
 | h1 l r ih =>
  rw [eN];have h1:=ih (fun x hx=>h x (List.mem_append_left _ hx));have h2:=h r (by simp);by_cases h3:bj l≠0∨r≠0
  ·exact Dt h1 h2 h3
  ·have e1:bj l=0:=Decidable.byContradiction fun h4=>h3 (Or.inl h4)
   have e2:r=0:=Decidable.byContradiction fun h4=>h3 (Or.inr h4)
   rw [e1,e2,rU];exact Mu.zero g
theorem o6(p:List Rat)(i:Nat):seq (ay p) i=(((seq (ay p) i).num:Int):Rat):=by
 rcases Nat.lt_or_ge i (ay p).length with h4|h4
 ·exact (Aj p _ (bH h4)).eq
 ·rw [show seq (ay p) i=0 from bu h4];rfl
theorem xL{p:List Rat}(hp:tz p≠[]){t:Int}(h:∀ i,t ∣ (seq (ay p) i).num):t.natAbs=1:=by
 have hm:=bs hp;have h1:Mu ((t:Rat)*aR p) (aR p):=BP (tz p) fun x hx=>by
  obtain ⟨i,hi,rfl⟩:=ep hx;rw [bC];have h2:=fh p i;obtain ⟨k,hk⟩:=h i;have h3:=o6 p i;refine ⟨(k:Rat),Wh.int k,?_⟩;show seq p i=_;rw [h2,h3,hk,Rat.intCast_mul];grind
 obtain ⟨z,hz,e⟩:=h1;have h2:z*(t:Rat)=1:=by
  have h3:(z*(t:Rat)-1)*aR p=0:=by grind
  rcases nXr.1 h3 with h|h
  ·grind
  ·rw [h] at hm;exact absurd hm Rat.lt_irrefl
 rw [hz.eq,←Rat.intCast_mul] at h2;have h4:z.num*t=1:=Rat.intCast_inj.1 h2;exact Int.natAbs_dvd_natAbs.2 (⟨z.num,by rw [←h4,Int.mul_comm]⟩:t ∣ 1) |> fun h=>Nat.dvd_one.1 h
theorem vh:∀ N:Nat,2≤N→∃ r,2≤r∧r ∣ N∧∀ x y:Int,(r:Int) ∣ x*y→(r:Int) ∣ x∨(r:Int) ∣ y:=by
 intro N hN;have key:∀ n:Nat,∀ r,2≤r→r≤n→r ∣ N→∃ r,2≤r∧r ∣ N∧∀ d,d ∣ N→2≤d→r≤d:=by
  intro n;induction n with
  | zero=>intro r h1 h2;omega
  | succ n ih =>
   intro r h1 h2 h3;by_cases h4:∃ d,d ∣ N∧2≤d∧d<r
   ·obtain ⟨d,d1,d2,d3⟩:=h4;exact ih d d2 zo d1
   ·exact ⟨r,h1,h3,fun d d1 d2=>Classical.byContradiction fun h5=>h4 ⟨d,d1,d2,zo⟩⟩
 obtain ⟨r,h1,h2,h3⟩:=key N N hN (nXe N) (Nat.dvd_refl N);refine ⟨r,h1,h2,fun x y h=>?_⟩;have hg:Nat.gcd r x.natAbs=1∨Nat.gcd r x.natAbs=r:=by
  have a1:=Nat.gcd_dvd_left r x.natAbs;have a2:Nat.gcd r x.natAbs ∣ N:=Nat.dvd_trans a1 h2;have a3:=Nat.le_of_dvd zo a1;have a4:0<Nat.gcd r x.natAbs:=Nat.gcd_pos_of_pos_left _ zo;rcases Nat.lt_or_ge (Nat.gcd r x.natAbs) 2 with h4|h4
  ·left;omega
  ·right
   have:=h3 _ a2 h4;omega
 have hn:r ∣ x.natAbs*y.natAbs:=by
  have:=Int.natAbs_dvd_natAbs.2 h
  rwa [nYi,Int.natAbs_mul] at this
 rcases hg with h4|h4
 ·right
  exact Int.natAbs_dvd_natAbs.1 (by rw [nYi];exact Nat.Coprime.dvd_of_dvd_mul_left h4 hn)
 ·left
  exact Int.natAbs_dvd_natAbs.1 (by rw [nYi,←h4];exact Nat.gcd_dvd_right _ _)
theorem oI{r:Int}{f:Nat→Int}(h:∃ i,¬ r ∣ f i):∃ i,¬ r ∣ f i∧∀ j,j<i→r ∣ f j:=by
 obtain ⟨i,hi⟩:=h;induction i using Nat.strongRecOn with
 | _ i ih =>
  by_cases h2:∃ j,j<i∧¬ r ∣ f j
  ·obtain ⟨j,h3,h4⟩:=h2;exact ih j h3 h4
  ·exact ⟨i,hi,fun j hj=>Decidable.byContradiction fun h=>h2 ⟨j,hj,h⟩⟩
theorem yM{r:Int}{n:Nat}{f:Nat→Int}(h:∀ i,i<n→r ∣ f i):r ∣ iO n f:=by
 induction n with
 | zero=>exact ⟨0,by simp [iO]⟩
 | succ n ih=>exact Int.dvd_add (ih fun i hi=>h i zo) (h n (Nat.lt_succ_self n))
theorem yN{r:Int}:∀ {n:Nat} {f:Nat→Int} {k:Nat},k<n→(∀ i,i<n→i≠k→r ∣ f i)→r ∣ iO n f→r ∣ f k:=by
 intro n;induction n with
 | zero=>intro f k h;omega
 | succ n ih =>
  intro f k hk h hs;have hs':r ∣ iO n f+f n:=hs;by_cases h1:k=n
  ·subst h1;exact (Int.dvd_add_right (yM fun i hi=>h i zo zo)).1 hs'
  ·exact ih zo (fun i hi hne=>h i zo hne) ((Int.dvd_add_left (h n (Nat.lt_succ_self n) zo)).1 hs')
theorem Fk{r:Nat}(hr:∀ x y:Int,(r:Int) ∣ x*y→(r:Int) ∣ x∨(r:Int) ∣ y){f g:Nat→Int}(hf:∃ i,¬ (r:Int) ∣ f i)(hg:∃ i,¬ (r:Int) ∣ g i):∃ n,¬ (r:Int) ∣ iO (n+1) (fun i=>f i*g (n-i)):=by
 obtain ⟨a,ha,ha2⟩:=oI hf;obtain ⟨b,hb,hb2⟩:=oI hg;refine ⟨a+b,fun h=>?_⟩;have h1:=yN (k:=a) zo (fun i hi hne=>?_) h
 ·rw [show a+b-a=b by omega] at h1;rcases hr _ _ h1 with h2|h2
  ·exact ha h2
  ·exact hb h2
 ·rcases Nat.lt_or_ge i a with h2|h2
  ·exact Int.dvd_mul_of_dvd_left (ha2 i h2)
  ·exact Int.dvd_mul_of_dvd_right (hb2 (a+b-i) zo)
theorem zF{q g h:List Rat}(hq:∀ i,Wh (seq q i))(hq0:tz q≠[])(hg:ay g=g)(he:∀ x,evV q x=evV g x*evV h x):∀ i,Wh (seq h i):=by
 have hg0:tz g≠[]:=fun h0=>by
  obtain ⟨y,hy⟩:=jb hq0;exact hy (by rw [he,aD.1 h0 y];grind)
 have hh0:tz h≠[]:=fun h0=>by
  obtain ⟨y,hy⟩:=jb hq0;exact hy (by rw [he,aD.1 h0 y];grind)
 have whs:=o6;have hc:∀ n,(seq q n)*((aR h).den:Rat)=((aR h).num:Rat)*((iO (n+1) (fun i=>(seq g i).num*(seq (ay h) (n-i)).num):Int):Rat):=fun n=>by
  have h1:=ev_inj (p:=q) (q:=aO g h) (fun x=>by rw [ev_mul5,he]) n;rw [h1,dY,iJ,oz];have h2:cv (seq g) (seq h) n=aR h*sm (n+1) (fun i=>(((seq g i).num*(seq (ay h) (n-i)).num:Int):Rat)):=by
   rw [←ik];refine sm_congr fun i hi=>?_
   rw [Rat.intCast_mul,←whs h,fh h (n-i)];have h3:=whs g i;rw [hg] at h3;rw [←h3];grind
  rw [h2];have h4:=low (aR h);rw [←h4];grind
 have hd:(aR h).den=1:=by
  apply Classical.byContradiction;intro hd;have hd2:2≤(aR h).den:=by have:=(aR h).den_pos;omega
  obtain ⟨r,r1,r2,r3⟩:=vh _ hd2;have hpf:∀ {p:List Rat},tz p≠[]→∃ i,¬ (r:Int) ∣ (seq (ay p) i).num:=fun {p} hp=>Classical.byContradiction fun hn=>by
   have:=xL hp (t:=(r:Int)) (fun i=>Classical.byContradiction fun h=>hn ⟨i,h⟩);rw [nYi] at this;omega
  have hgf:=hpf hg0;rw [hg] at hgf;obtain ⟨n,hn⟩:=Fk r3 hgf (hpf hh0);apply hn;have h1:=hc n;rw [(hq n).eq] at h1;have h2:(seq q n).num*(aR h).den=(aR h).num*iO (n+1) (fun i=>(seq g i).num*(seq (ay h) (n-i)).num):=by
   apply Rat.intCast_inj.1;rw [Rat.intCast_mul,Rat.intCast_mul,Rat.intCast_natCast];exact h1
  have h3:(r:Int) ∣ (aR h).num*iO (n+1) (fun i=>(seq g i).num*(seq (ay h) (n-i)).num):=by
   rw [←h2];obtain ⟨k,hk⟩:=r2;exact ⟨(seq q n).num*k,by rw [hk,Int.natCast_mul];grind⟩
  rcases r3 _ _ h3 with h4|h4
  ·exfalso;have h5:r ∣ (aR h).num.natAbs:=by
    have:=Int.natAbs_dvd_natAbs.2 h4
    rwa [nYi] at this
   have h6:=Nat.dvd_gcd h5 r2;rw [(aR h).reduced] at h6;have:=Nat.dvd_one.1 h6;omega
  ·exact h4
 intro i;rw [fh h i];exact Wh.mul hd (by rw [whs h i];exact Wh.int _)
theorem CA:∀ (m:Nat) (g:List Rat) (a B R:Rat),ln g≤m+1→0≤B→0≤R→(∀ t:Nat,t≤m→Sg.Bd B (evV g (a+(t:Rat))))→(∀ t:Nat,t≤m→Sg.Bd R (a+(t:Rat)))→∀ i,Sg.Bd (B*(2*R+3) ^ m) (seq g i):=by
 intro m;induction m with
 | zero =>
  intro g a B R hl hB hR hv hp i;rw [Rat.pow_zero,Rat.mul_one];cases i with
  | zero=>rw [←gy hl (a+((0:Nat):Rat))];exact hv 0 (nXe 0)
  | succ i=>rw [CU zo];exact ⟨by grind,hB⟩
 | succ m ih =>
  intro g a B R hl hB hR hv hp i;obtain ⟨c,hc⟩:∃ c,c=a+((m+1:Nat):Rat):=⟨_,rfl⟩;have hcv:=hv (m+1) (nXe _);have hcR:=hp (m+1) (nXe _);rw [←hc] at hcv hcR;have one:∀ t:Rat,∀ x,evV [t] x=t:=fun t x=>by show 0*x+t=t;grind
  obtain ⟨f,hf⟩:∃ f,f=fY g [evV g c]:=⟨_,rfl⟩;have hfx:∀ x,evV f x=evV g x-evV g c:=fun x=>by rw [hf,fE,one]
  obtain ⟨g1',⟨g1,rfl⟩,h1⟩:=AJ (Pf.ev f) (a:=c) (by rw [hfx];grind);have hlf:ln f≤m+2:=by
   have h2:=jd g [evV g c];have h3:ln [evV g c]≤1:=aj [evV g c];rw [hf];omega
  have hl1:ln g1≤m+1:=by
   by_cases h2:tz g1=[]
   ·show (tz g1).length≤_;rw [h2];exact Nat.zero_le _
   ·have h3:=pH h1 h2;have h4:ln g1<ln f:=h3;omega
  have hmul:∀ d y:Rat,1≤d→Sg.Bd (2*B) (d*y)→Sg.Bd (2*B) y:=fun d y hd hb=>by
   rcases tot 0 y with h|h
   ·have h2:=il hd h;exact ⟨by grind,by have:=hb.2;grind⟩
   ·have h2:=il hd (show 0≤-y by grind);exact ⟨by have:=hb.1;grind,by grind⟩
  have hv1:∀ t:Nat,t≤m→Sg.Bd (2*B) (evV g1 (a+(t:Rat))):=fun t ht=>by
   have h2:=h1 (a+(t:Rat));rw [hfx] at h2;have h3:((m+1:Nat):Rat)-(t:Rat)=((m+1-t:Nat):Rat):=by
    have:((m+1:Nat):Rat)=((m+1-t:Nat):Rat)+(t:Rat):=by rw [←Rat.natCast_add];congr 1;omega
    grind
   have h4:(1:Rat)≤((m+1-t:Nat):Rat):=by exact_mod_cast (show 1≤m+1-t by omega)
   refine hmul _ _ h4 ?_;have h5:((m+1-t:Nat):Rat)*evV g1 (a+(t:Rat))=-(evV g (a+(t:Rat))-evV g c):=by rw [h2,←h3,hc];grind
   rw [h5,show (2:Rat)*B=B+B by grind];exact ((hv t zo).sub hcv).neg
  have hI:=ih g1 a (2*B) R hl1 (by grind) hR hv1 (fun t ht=>hp t zo);have hs:=ve h1 i;have hsg:seq g i=seq f i+seq [evV g c] i:=by rw [hf,uj];grind
  have hcon:Sg.Bd B (seq [evV g c] i):=by
   cases i with
   | zero=>exact hcv
   | succ i=>exact ⟨by show -B≤(0:Rat);grind,by show (0:Rat)≤B;exact hB⟩
  have hP:0≤(2*R+3) ^ m:=Rat.pow_nonneg (by grind);have hsh:Sg.Bd (2*B*(2*R+3) ^ m) (sh (seq g1) i):=by
   cases i with
   | zero =>
    have:=yA (show 0≤2*B by grind) hP;exact ⟨by show -_≤(0:Rat);grind,by show (0:Rat)≤_;exact this⟩
   | succ i=>exact hI i
  have hP1:1≤(2*R+3) ^ m:=by
   have:∀ k:Nat,(1:Rat)≤(2*R+3) ^ k:=fun k=>by
    induction k with
    | zero=>rw [Rat.pow_zero];exact Rat.le_refl
    | succ k ihk =>
     rw [Rat.pow_succ];have h6:=il ihk (show 0≤2*R+3 by grind);grind
   exact this m
  rw [hsg,hs,Rat.pow_succ];refine ((hsh.sub (hcR.mul (hI i))).add hcon).mono ?_;have h7:=eL hP1 hB;generalize (2*R+3) ^ m=P at *
  grind
theorem Ci{A x:Rat}(hA:1≤A)(hx:A≤x):∀ p:List Rat,(∀ y ∈ p,Wh y∧Sg.Bd (A-1) y)→tz p≠[]→Big 1 (evV p x):=by
 intro p;induction p with
 | nil=>intro _ h;exact absurd rfl h
 | cons c p ih =>
  intro h h0;obtain ⟨hc1,hc2⟩:=h c (List.mem_cons_self ..);have e:evV (c :: p) x=evV p x*x+c:=rfl;rw [e];by_cases h1:tz p=[]
  ·rw [aD.1 h1 x];have hc0:c≠0:=fun hc=>h0 (aD.2 fun y=>by show evV p y*y+c=0;rw [aD.1 h1 y,hc];grind)
   obtain ⟨z,hz⟩:=Wh.iff.1 hc1;rw [hz] at hc0 ⊢;have hz0:z≠0:=fun h=>hc0 (by rw [h];rfl)
   rcases (show 1≤z∨z≤-1 by omega) with h2|h2
   ·left
    have:((1:Int):Rat)≤(z:Rat):=Rat.intCast_le_intCast.2 h2;have e1:((1:Int):Rat)=1:=rfl;grind
   ·right
    have:(z:Rat)≤((-1:Int):Rat):=Rat.intCast_le_intCast.2 h2;have e1:((-1:Int):Rat)=-1:=rfl;grind
  ·have h2:=ih (fun y hy=>h y (List.mem_cons_of_mem _ hy)) h1;obtain ⟨b1,b2⟩:=hc2;rcases h2 with h3|h3
   ·left
    have h4:=il h3 (show 0≤x by grind);grind
   ·right
    have h4:=il h3 (show 0≤x by grind);grind
theorem DX{A X x:Rat}(hA:0≤A)(hx:0≤x)(hX:x≤X):∀ p:List Rat,(∀ y ∈ p,Sg.Bd A y)→Sg.Bd (A*(X+1) ^ p.length) (evV p x):=by
 intro p;induction p with
 | nil =>
  intro _;rw [List.length_nil,Rat.pow_zero,Rat.mul_one];exact ⟨by show -A≤(0:Rat);grind,hA⟩
 | cons c p ih =>
  intro h;have h1:=ih (fun y hy=>h y (List.mem_cons_of_mem _ hy));have h2:=h c (List.mem_cons_self ..);have hP:∀ k:Nat,(1:Rat)≤(X+1) ^ k:=fun k=>by
   induction k with
   | zero=>rw [Rat.pow_zero];exact Rat.le_refl
   | succ k ihk =>
    rw [Rat.pow_succ];have h6:=il ihk (show 0≤X+1 by grind);grind
  have e:evV (c :: p) x=evV p x*x+c:=rfl;rw [e,List.length_cons,Rat.pow_succ];refine ((h1.mul (show Sg.Bd X x from ⟨by grind,hX⟩)).add h2).mono ?_;have h3:=eL (hP p.length) hA;generalize (X+1) ^ p.length=P at *
  grind
theorem CZ{p:List Rat}(h:∀ i,Wh (seq p i)){x:Rat}(hx:Wh x):Wh (evV p x):=by
 have key:∀ p:List Rat,(∀ i,Wh (seq p i))→Wh (evV p x):=by
  intro p;induction p with
  | nil=>intro _;exact Wh.zero
  | cons c p ih=>intro h;exact ((ih fun i=>h (i+1)).mul hx).add (h 0)
 exact key p h
theorem zp{q d:List Rat}{S:Nat}(hq:∀ x ∈ q,Wz S x)(hq0:tz q≠[])(hd:Dv (evV d) (evV q))(hn:q.length≤1000):∀ x ∈ ay d,Wz ((S+1)*(2*q.length+1)) x:=by
 have hd0:tz d≠[]:=fun h0=>by
  obtain ⟨y,hy⟩:=jb hq0;obtain ⟨c,-,h1⟩:=hd;exact hy (by rw [h1,aD.1 h0 y];grind)
 have hdl:=gD hd hq0;have hql:=aj q;obtain ⟨g,hg⟩:∃ g,g=ay d:=⟨_,rfl⟩;have hgg:ay g=g:=by
  rw [hg];exact (fu (p:=d) (q:=ay d) (bs hd0) (fun n=>by rw [fh d n];grind)).symm
 obtain ⟨h,hh⟩:∃ h:List Rat,∀ x,evV q x=evV g x*evV h x:=by
  obtain ⟨c,hc,h1⟩:=hd;obtain ⟨h,hh⟩:=hc.smul (aR d);exact ⟨h,fun x=>by rw [h1,←hh,cr d x,hg];grind⟩
 have hqw:∀ i,Wh (seq q i):=fun i=>by rw [(iR hq i).1];exact Wh.int _
 have hhw:=zF hqw hq0 hgg hh;have hgw:∀ i,Wh (seq g i):=fun i=>by
  have:=o6 d i;rw [←hg] at this;rw [this];exact Wh.int _
 obtain ⟨A,hA⟩:∃ A:Nat,A=W32 ^ S:=⟨_,rfl⟩;have hA1:1≤A:=by rw [hA];exact nYn aI
 have hA1':(1:Rat)≤(A:Rat):=by exact_mod_cast hA1
 obtain ⟨m,hm⟩:∃ m,ln g=m+1:=⟨ln g-1,by
  have:1≤ln g:=im (by rw [hg,bq];exact fun k=>hd0 (spl_ne.1 k));omega⟩
 have hmq:m+1≤q.length:=by
  have:ln g=(tz d).length:=by show (tz g).length=_;rw [hg,bq,aG]
  omega
 obtain ⟨X,hX⟩:∃ X:Nat,X=A+m:=⟨_,rfl⟩;have hcoef:∀ y ∈ q,Wh y∧Sg.Bd ((A:Rat)-1) y:=fun y hy=>by
  obtain ⟨w1,w2⟩:=hq y hy;refine ⟨w1,?_⟩;rw [w1.eq];have h1:-((A:Int)-1)≤y.num∧y.num≤(A:Int)-1:=by rw [hA];omega
  have h2:=Rat.intCast_le_intCast.2 h1.1;have h3:=Rat.intCast_le_intCast.2 h1.2;rw [Rat.intCast_neg,Rat.intCast_sub,Rat.intCast_natCast] at h2;rw [Rat.intCast_sub,Rat.intCast_natCast] at h3;exact ⟨h2,h3⟩
 have hB:=fun (t:Nat) (ht:t≤m)=>DX (A:=(A:Rat)) (X:=(X:Rat)) (x:=(A:Rat)+(t:Rat)) (by grind) (by
  have:(0:Rat)≤(t:Rat):=by exact_mod_cast Nat.zero_le t
  grind) (by rw [hX,←Rat.natCast_add];exact_mod_cast (show A+t≤A+m by omega)) q (fun y hy=>(hcoef y hy).2.mono (by grind))
 have hval:∀ t:Nat,t≤m→Sg.Bd ((A:Rat)*((X:Rat)+1) ^ q.length) (evV g ((A:Rat)+(t:Rat))):=fun t ht=>by
  have h1:=Ci (A:=(A:Rat)) (x:=(A:Rat)+(t:Rat)) hA1' (by
   have:(0:Rat)≤(t:Rat):=by exact_mod_cast Nat.zero_le t
   grind) q hcoef hq0
  have h2:=hB t ht;have hxw:Wh ((A:Rat)+(t:Rat)):=by
   have h3:∀ k:Nat,Wh (k:Rat):=fun k=>Rat.den_natCast k
   exact (h3 A).add (h3 t)
  have hv1:=CZ hgw hxw;have hv2:=CZ hhw hxw;rw [hh] at h1 h2;generalize evV g ((A:Rat)+(t:Rat))=u at *
  generalize evV h ((A:Rat)+(t:Rat))=v at *
  generalize (A:Rat)*((X:Rat)+1) ^ q.length=C at *
  have hvz:v≠0:=fun h0=>by
   rw [h0,nYc] at h1;rcases h1 with h1|h1 <;> grind
  obtain ⟨z,hz⟩:=Wh.iff.1 hv2;have hz0:z≠0:=fun h=>hvz (by rw [hz,h];rfl)
  obtain ⟨c1,c2⟩:=h2;rcases (show 1≤z∨z≤-1 by omega) with h3|h3
  ·have h4:(1:Rat)≤v:=by
    have:((1:Int):Rat)≤(z:Rat):=Rat.intCast_le_intCast.2 h3;rw [hz];exact this
   rcases tot 0 u with h5|h5
   ·have h6:=eL h4 h5;exact ⟨by grind,by grind⟩
   ·have h6:=eL h4 (show 0≤-u by grind);exact ⟨by grind,by grind⟩
  ·have h4:v≤-1:=by
    have:(z:Rat)≤((-1:Int):Rat):=Rat.intCast_le_intCast.2 h3;rw [hz];exact this
   rcases tot 0 u with h5|h5
   ·have h6:=eL (show 1≤-v by grind) h5;exact ⟨by grind,by grind⟩
   ·have h6:=eL (show 1≤-v by grind) (show 0≤-u by grind);exact ⟨by grind,by grind⟩
 have hXr:∀ t:Nat,t≤m→Sg.Bd (X:Rat) ((A:Rat)+(t:Rat)):=fun t ht=>by
  have h1:(A:Rat)+(t:Rat)≤(X:Rat):=by rw [hX,←Rat.natCast_add];exact_mod_cast (show A+t≤A+m by omega)
  have h2:(0:Rat)≤(A:Rat)+(t:Rat):=by rw [←Rat.natCast_add];exact_mod_cast Nat.zero_le (A+t)
  exact ⟨by grind,h1⟩
 have hX0:(0:Rat)≤(X:Rat):=by exact_mod_cast Nat.zero_le X
 have hC0:(0:Rat)≤(A:Rat)*((X:Rat)+1) ^ q.length:=yA (by grind) (Rat.pow_nonneg (by grind));have hfin:=CA m g (A:Rat) _ (X:Rat) zo hC0 hX0 hval hXr;have hW:2*X+3≤W32 ^ (S+1):=by
  have e1:W32 ^ (S+1)=A*4294967296:=by rw [nXu,←hA];rfl
  omega
 have hbound:A*(X+1) ^ q.length*(2*X+3) ^ m<W32 ^ ((S+1)*(2*q.length+1)):=by
  have b1:(X+1) ^ q.length≤W32 ^ ((S+1)*q.length):=by rw [Nat.pow_mul];exact Nat.pow_le_pow_left zo _
  have b2:(2*X+3) ^ m≤W32 ^ ((S+1)*m):=by rw [Nat.pow_mul];exact Nat.pow_le_pow_left hW _
  have b3:A*(X+1) ^ q.length*(2*X+3) ^ m≤W32 ^ S*W32 ^ ((S+1)*q.length)*W32 ^ ((S+1)*m):=by
   rw [hA] at *
   exact nXy (nXg _ b1) b2
  refine nYl b3 ?_;rw [←Nat.pow_add,←Nat.pow_add];refine Nat.pow_lt_pow_right dZ ?_;have e2:(S+1)*(2*q.length+1)=(S+1)*q.length+(S+1)*q.length+(S+1):=by rw [Nat.mul_add,Nat.mul_one,show 2*q.length=q.length+q.length by omega,Nat.mul_add]
  have e3:(S+1)*m≤(S+1)*q.length:=nXg _ zo;omega
 intro x hx;rw [←hg] at hx;obtain ⟨i,hi,rfl⟩:=ep hx;have h1:=hfin i;have hw:=hgw i;refine ⟨hw,?_⟩;have h2:Sg.Bd (((A*(X+1) ^ q.length*(2*X+3) ^ m:Nat):Int):Rat) (((seq g i).num:Int):Rat):=by
  rw [←hw.eq,Rat.intCast_natCast,Rat.natCast_mul,Rat.natCast_mul,Rat.natCast_pow,Rat.natCast_pow,Rat.natCast_add,Rat.natCast_add,Rat.natCast_mul];exact h1
 obtain ⟨c1,c2⟩:=h2;rw [←Rat.intCast_neg] at c1;have c3:=Rat.intCast_le_intCast.1 c1;have c4:=Rat.intCast_le_intCast.1 c2;show (seq g i).num.natAbs<_;omega
end Go.Proofs.YtkcpmclnocmalaaGreat.Sg
