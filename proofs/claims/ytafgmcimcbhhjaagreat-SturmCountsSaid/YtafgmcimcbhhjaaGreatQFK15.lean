import Derived.Test.YtafgmcimcbhhjaaGreatQFK13
set_option linter.unusedVariables false
set_option maxHeartbeats 8000000
set_option maxRecDepth 8000
namespace Go.Proofs.YtafgmcimcbhhjaaGreat
open Go.RowKit Go.Front Go.Num Stab Sg
attribute [local go_sem] XW.cell XW.frozen
def btM(ms:List (List Rat))(lo hi:Rat):Int:=(cT ms lo:Int)-cT ms hi-(if rtV ms hi=true∧lo<hi then 1 else 0)
theorem rO{a b:Rat}:dO a b<0↔a<b:=by
 unfold dO;split
 ·exact ⟨fun _=>by assumption,fun _=>by decide⟩
 ·split <;> constructor <;> intro h <;> first|omega|contradiction
theorem qG(v:SH)(ms:List (List Rat))(K:Nat)(s t:RH)(a b:Rat)(T:Nat)(w:World)(hc:ChK w v ms K)(h0:0<ms.length)(hs:aB w s a)(ht:aB w t b)(za:Sz T a)(zb:Sz T b)(hT:1≤T)(hT3:T≤1000) :
  ar 148 [CV v,s.v,t.v] w (fun _:Unit=>.int .i64 (btM ms a b)) (fun _ _=>True):=by
 obtain ⟨va,vn,vc⟩:=v;obtain ⟨sn,sa,sl,sc,sb,sm,sd⟩:=s;obtain ⟨tn,ta,tl,tc,tb,tm,td⟩:=t;have HX:=Hi (Ext.refl w);have HC:=Hi hc;have HS:=Hi hs;have HT:=Hi ht;have ZA:=Hi za;have ZB:=Hi zb;have hl:=hc.ln;have v1:=iQ ms a;have v2:=iQ ms b;obtain ⟨x1,hx1⟩:∃ x1,x1=cT ms a:=⟨_,rfl⟩;obtain ⟨x2,hx2⟩:∃ x2,x2=cT ms b:=⟨_,rfl⟩;have HV1:=Hi hx1;have HV2:=Hi hx2;rw [←hx1] at v1;rw [←hx2] at v2;clear hc hs ht za zb hx1 hx2;unfold ar;go_enter Tryz.func148,Tryz.ntmps148;simp only [CV,SH.v]
 go_upto_region 1 with fail
 refine qX ?_;intro w1 hE B3 B4 B5 hz_w1 hr_w1;refine mV4 hE ?_ HX HC HS HT;clear HX HC HS HT;intro HX HC HS HT;have hs_w1:=hE.size;replace b_B3:=bX3 B3;replace b_B4:=bX3 B4;replace b_B5:=bX3 B5
 go_upto_region 2 with fail
 refine wpG 8 (fun opIx=>match opIx with
  | 2=>sU (.int .i64 (x1:Nat))
  | 5=>sU (.int .i64 (x2:Nat))
  | _=>.quiet) (fun _=>[]) fun w0 he0 hz0 hc0 hf0=>?_
 refine wps he0 (fun w1 hW hG=>?_) fun x20=>?_
 ·exact (by rw [HV1.out];exact gQ #[CV ⟨va,vn,vc⟩] [CV ⟨va,vn,vc⟩,RH.v ⟨sn,sa,sl,sc,sb,sm,sd⟩] rfl rfl rfl Tryz.func71 kZ kZ (kg ⟨va,vn,vc⟩ ms K ⟨sn,sa,sl,sc,sb,sm,sd⟩ a T _ (HC.out.ext hW) (HS.out.ext hW) ZA.out hT hT3))
 refine qZ ?_;refine wps he0 (fun w1 hW hG=>?_) fun x21=>?_
 ·exact (by rw [HV2.out];exact gQ #[CV ⟨va,vn,vc⟩] [CV ⟨va,vn,vc⟩,RH.v ⟨tn,ta,tl,tc,tb,tm,td⟩] rfl rfl rfl Tryz.func71 kZ kZ (kg ⟨va,vn,vc⟩ ms K ⟨tn,ta,tl,tc,tb,tm,td⟩ b T _ (HC.out.ext hW) (HT.out.ext hW) ZB.out hT hT3))
 refine qZ ?_;refine am ?_;intro w2 hI;have hE:=he0.out.trans hI.ext;clear hI he0 hz0 hc0 hf0;refine mV7 hE ?_ B3 B4 B5 HX HS HC HT;clear B3 B4 B5 HX HS HC HT;intro B3 B4 B5 HX HS HC HT;have hs_w2:=hE.size;replace b_B3:=bX3 B3;replace b_B4:=bX3 B4;replace b_B5:=bX3 B5;simp only [pD]
 go_wp2_with fail
 refine cM (kJ ⟨va,vn,vc⟩ ms K ⟨tn,ta,tl,tc,tb,tm,td⟩ b T _ HC.out h0 HT.out ZB.out hT hT3) fun x20 w20 hE _=>?_
 refine mV7 hE ?_ B3 B4 B5 HX HS HC HT;clear B3 B4 B5 HX HS HC HT;intro B3 B4 B5 HX HS HC HT;have hs_w20:=hE.size;replace b_B3:=bX3 B3;replace b_B4:=bX3 B4;replace b_B5:=bX3 B5;obtain ⟨r,hr⟩:∃ r,r=rtV ms b:=⟨_,rfl⟩;have HR:=Hi hr;rw [←hr];clear hr;cases r
 case false =>
  have HE:Hid (btM ms a b=(x1:Int)-(x2:Int)):=Hi (by unfold btM;rw [←HR.out,←HV1.out,←HV2.out,if_neg (by simp)];omega);go_wp2
  go_ret
  exact ⟨(),by rw [HE.out];rfl,HX.out,trivial⟩
 go_wp2_with fail
 refine cM (gW ⟨sn,sa,sl,sc,sb,sm,sd⟩ ⟨tn,ta,tl,tc,tb,tm,td⟩ a b _ (HS.out.raw ZA.out zo) (HT.out.raw ZB.out zo)) fun x24 w24 hE _=>?_
 refine mV7 hE ?_ B3 B4 B5 HX HS HC HT;clear B3 B4 B5 HX HS HC HT;intro B3 B4 B5 HX HS HC HT;have hs_w24:=hE.size;replace b_B3:=bX3 B3;replace b_B4:=bX3 B4;replace b_B5:=bX3 B5;by_cases hlt:a<b
 ·have hc:dO a b<0:=rO.2 hlt;have HE:Hid (btM ms a b=(x1:Int)-(x2:Int)-1):=Hi (by unfold btM;rw [←HR.out,←HV1.out,←HV2.out,if_pos ⟨rfl,hlt⟩]);generalize dO a b=c at *
  clear hlt;go_wp2
  go_ret
  exact ⟨(),by rw [HE.out];rfl,HX.out,trivial⟩
 ·have hc:¬ dO a b<0:=fun h=>hlt (rO.1 h)
  have HE:Hid (btM ms a b=(x1:Int)-(x2:Int)):=Hi (by unfold btM;rw [←HR.out,←HV1.out,←HV2.out,if_neg (fun h=>hlt h.2)];omega);generalize dO a b=c at *
  clear hlt;go_wp2
  go_ret
  exact ⟨(),by rw [HE.out];rfl,HX.out,trivial⟩
theorem jB(pa:Option Addr)(P pc:Nat)(p:List Rat)(K:Nat)(s t:RH)(a b:Rat)(T:Nat)(w:World)(h:co w ⟨pa,P,pc⟩ p)(hP:P≤49)(h0:tz p≠[])(hk:FrK K p)(hK:K≤12000000)(hK2:(P+1)*(K / 3)≤25000000)(hsq:FrK K (sqfV p))
 (hs:aR w s a)(ht:aR w t b)(za:Sz T a)(zb:Sz T b)(hT:1≤T)(hT3:T≤1000) :
  ar 22 [.slice pa P pc,IvV (s,t)] w (fun _:Unit=>.tuple #[.int .i64 (cntV p (loV a b) (hiV a b)),.int .i64 0]) (fun _ _=>True):=by
 obtain ⟨sn,sa,sl,sc,sb,sm,sd⟩:=s;obtain ⟨tn,ta,tl,tc,tb,tm,td⟩:=t;have HX:=Hi (Ext.refl w);have LP:=Hi (RIn.of h);have HS:=Hi hs;have HT:=Hi ht;have hlen:=h.len;simp only at hlen;have HKp:=Hi hk;have HKs:=Hi hsq;have H0:=Hi h0;have HSz:Hid (SzL K p):=Hi (by
  obtain ⟨S,D,h1,h2,h3,h4,h5⟩:=hk;exact (h4.sz h1 h2 h3).mono (by have:=KZ.small h5;omega))
 have HCK:Hid (me p=0):=Hi (by unfold me;rw [if_neg (by have:=af p;omega),if_neg h0]);have ZA:Hid (Sz T (loV a b)):=Hi (by rcases lC a b with e|e <;> rw [e] <;> assumption);have ZB:Hid (Sz T (hiV a b)):=Hi (by rcases lJ a b with e|e <;> rw [e] <;> assumption);have hms:Hid (0<(remsV (rootV p)).length):=Hi (kj (eV h0).ne);obtain ⟨lo,hlo⟩:∃ lo,lo=loV a b:=⟨_,rfl⟩;obtain ⟨hi,hhi⟩:∃ hi,hi=hiV a b:=⟨_,rfl⟩;rw [←hlo] at ZA;rw [←hhi] at ZB;have v1:=iQ (remsV (rootV p)) lo;have v2:=iQ (remsV (rootV p)) hi;have hml:(remsV (rootV p)).length≤P+1:=by
  have e1:=jd (rootV p);have e2:(rootV p).length≤p.length:=by unfold rootV;split;exact kK h0;exact nXe _
  omega
 obtain ⟨x1,hx1⟩:∃ x1,x1=cT (remsV (rootV p)) lo:=⟨_,rfl⟩;obtain ⟨x2,hx2⟩:∃ x2,x2=cT (remsV (rootV p)) hi:=⟨_,rfl⟩;have HV1:=Hi hx1;have HV2:=Hi hx2;rw [←hx1] at v1;rw [←hx2] at v2;have hx1b:x1≤100:=zo;have hx2b:x2≤100:=zo;have HCN:Hid (cntV p (loV a b) (hiV a b)=(x1:Int)-(x2:Int)+(if rtV (remsV (rootV p)) lo=true then 1 else 0)):=Hi (by rw [hx1,hx2,←hlo,←hhi];rfl);have HLO:=Hi hlo;have HHI:=Hi hhi;obtain ⟨ms,hmse⟩:∃ ms,ms=remsV (rootV p):=⟨_,rfl⟩;have HMS:=Hi hmse;rw [←hmse] at hms HV1 HV2 HCN;clear h hs ht hk hsq h0 za zb hlo hhi hx1 hx2 v1 v2 hml hmse hlen;unfold ar;go_enter Tryz.func22,Tryz.ntmps22
 go_upto_region 1 with fail
 refine nmA ?_;intro w1 hE B3 hz_w1 hr_w1;refine mV4 hE ?_ HX LP HS HT;clear HX LP HS HT;intro HX LP HS HT;have hs_w1:=hE.size;replace b_B3:=bX3 B3
 go_wp2_with fail
 refine cM (fH pa P pc p _ LP.out.raw) fun x11 w11 hE _=>?_
 refine mV5 hE ?_ B3 HX LP HS HT;clear B3 HX LP HS HT;intro B3 HX LP HS HT;have hs_w11:=hE.size;replace b_B3:=bX3 B3;rw [HCK.out]
 go_wp2_with fail
 refine cM (fv ⟨sn,sa,sl,sc,sb,sm,sd⟩ ⟨tn,ta,tl,tc,tb,tm,td⟩ a b _ HS.out HT.out) fun x16 w16 hE G16=>?_
 refine mV5 hE ?_ B3 HX LP HS HT;clear B3 HX LP HS HT;intro B3 HX LP HS HT;have hs_w16:=hE.size;replace b_B3:=bX3 B3;obtain ⟨⟨ln,la,ll,lc,lb,lm,ld⟩,⟨hn,ha,hl,hc,hb,hm,hd⟩⟩:=x16;rw [←HLO.out,←HHI.out] at G16;have HL:=Hi G16.out.1;have HH:=Hi G16.out.2;clear G16;clear HS;clear HT
 go_upto_region 5 with fail
 refine cz B3.out rfl ?_;intro w17 T;replace HX:=Hi (T.ext HX.out zo);replace LP:=Hi (LP.out.put T zo);replace B3:=Hi (T.bx);replace HL:=Hi (HL.out.keep T.keep);replace HH:=Hi (HH.out.keep T.keep);have hs_w17:=nle T.size;have hr_w17:=nle T.size.symm;clear T;replace b_B3:=bX3 B3
 go_wp2_with fail
 refine cM (qB pa P pc p K _ LP.out.raw zo H0.out HKp.out hK hK2 HKs.out) fun x18 w18 hE G18=>?_
 refine mV5 hE ?_ HX LP B3 HL HH;clear HX LP B3 HL HH;intro HX LP B3 HL HH;have hs_w18:=hE.size;replace b_B3:=bX3 B3;rw [←HMS.out] at G18;obtain ⟨va,vn,vc⟩:=x18;simp only [CV,SH.v]
 go_upto_region 6 with fail
 refine nmA ?_;intro w19 hE B7 hz_w19 hr_w19;refine mV6 hE ?_ G18 HX LP B3 HL HH;clear G18 HX LP B3 HL HH;intro G18 HX LP B3 HL HH;have hs_w19:=hE.size;replace b_B3:=bX3 B3;replace b_B7:=bX3 B7
 go_upto_region 7 with fail
 refine wpG 10 (fun opIx=>match opIx with
  | 3=>sU (.int .i64 (x1:Nat))
  | 7=>sU (.int .i64 (x2:Nat))
  | _=>.quiet) (fun _=>[]) fun w0 he0 hz0 hc0 hf0=>?_
 refine wps he0 (fun w1 hW hG=>?_) fun x30=>?_
 ·exact (by rw [HV1.out];exact gQ #[CV ⟨va,vn,vc⟩] [CV ⟨va,vn,vc⟩,RH.v ⟨ln,la,ll,lc,lb,lm,ld⟩] rfl rfl rfl Tryz.func71 kZ kZ (kg ⟨va,vn,vc⟩ ms K ⟨ln,la,ll,lc,lb,lm,ld⟩ lo T _ (G18.out.ext hW) (HL.out.ext hW) ZA.out hT hT3))
 refine qZ ?_;refine wps he0 (fun w1 hW hG=>?_) fun x31=>?_
 ·exact (by rw [HV2.out];exact gQ #[CV ⟨va,vn,vc⟩] [CV ⟨va,vn,vc⟩,RH.v ⟨hn,ha,hl,hc,hb,hm,hd⟩] rfl rfl rfl Tryz.func71 kZ kZ (kg ⟨va,vn,vc⟩ ms K ⟨hn,ha,hl,hc,hb,hm,hd⟩ hi T _ (G18.out.ext hW) (HH.out.ext hW) ZB.out hT hT3))
 refine qZ ?_;refine am ?_;intro w20 hI;have hE:=he0.out.trans hI.ext;clear hI he0 hz0 hc0 hf0;refine mV7 hE ?_ B7 HX LP B3 HL G18 HH;clear B7 HX LP B3 HL G18 HH;intro B7 HX LP B3 HL G18 HH;have hs_w20:=hE.size;replace b_B3:=bX3 B3;replace b_B7:=bX3 B7;simp only [pD]
 go_wp2_with fail
 refine cM (kJ ⟨va,vn,vc⟩ ms K ⟨ln,la,ll,lc,lb,lm,ld⟩ lo T _ G18.out hms.out HL.out ZA.out hT hT3) fun x33 w33 hE _=>?_
 refine mV7 hE ?_ B7 HX LP B3 HL G18 HH;clear B7 HX LP B3 HL G18 HH;intro B7 HX LP B3 HL G18 HH;have hs_w33:=hE.size;replace b_B3:=bX3 B3;replace b_B7:=bX3 B7;obtain ⟨r,hr⟩:∃ r,r=rtV ms lo:=⟨_,rfl⟩;rw [←hr] at HCN ⊢;clear hr;cases r
 ·go_wp2;exact nXa (v:=.tuple #[.int .i64 (cntV p (loV a b) (hiV a b)),.int .i64 0]) (by rw [HCN.out];simp [results,Tryz.results22,go_sem]) rfl ⟨(),rfl,HX.out,trivial⟩
 ·go_wp2;exact nXa (v:=.tuple #[.int .i64 (cntV p (loV a b) (hiV a b)),.int .i64 0]) (by rw [HCN.out];simp [results,Tryz.results22,go_sem]) rfl ⟨(),rfl,HX.out,trivial⟩
theorem mu(pa:Option Addr)(P pc:Nat)(p:List Rat)(K:Nat)(s t:RH)(a b:Rat)(T:Nat)(w:World)(h:bB w ⟨pa,P,pc⟩ p)(hP:P≤49)(h0:tz p≠[])(hk:FrK K p)(hK:K≤12000000)(hK2:(P+1)*(K / 3)≤25000000)(hsq:FrK K (sqfV p))
 (hs:aR w s a)(ht:aR w t b)(za:Sz T a)(zb:Sz T b)(hT:1≤T)(hT3:T≤1000) :
  ar 22 [.slice pa P pc,IvV (s,t)] w (fun _:Unit=>.tuple #[.int .i64 (cntV p (loV a b) (hiV a b)),.int .i64 0]) (fun _ _=>True):=by
 obtain ⟨S,D,h1,h2,h3,h4,h5⟩:=id hk;exact jB pa P pc p K s t a b T w (h.raw (h4.sz h1 h2 h3) (by have:=KZ.small h5;omega)) hP h0 hk hK hK2 hsq hs ht za zb hT hT3
theorem CN{S:Nat}{x:Rat}(h:Fr S 1 x):Wz S x:=by
 unfold Fr at h;rw [show x*((1:Nat):Rat)=x from Rat.mul_one x] at h;exact h
theorem CY{S:Nat}{p:List Rat}(h:∀ x ∈ p,Wz S x)(hl:p.length≤100000):∀ x ∈ tz (derL p),Wz (S+1) x:=fun x hx=>CN (eZ (D:=1) (fun y hy=>Fr.one (h y hy)) hl x hx)
theorem tP(n:Nat)(x:Rat):cu n [] x=0:=by cases n <;> simp [cu]
theorem yZ:∀ (n:Nat) (p:List Rat) (x:Rat),IsS (cu n p x):=by
 intro n;induction n with
 | zero=>intro p x;exact Or.inr (Or.inl rfl)
 | succ n ih =>
  intro p x;unfold cu;split
  ·exact Or.inr (Or.inl rfl)
  ·split
   ·exact jA _
   ·exact ih _ _
theorem mX(pa:Option Addr)(P pc:Nat)(p:List Rat)(t:RH)(x:Rat)(S T:Nat)(w:World)(h:bB w ⟨pa,P,pc⟩ p)(hP:P≤900)(htz:tz p=p)(hW:∀ y ∈ p,Wz S y)(hS:1≤S)(hS2:S≤16770000)(ht:aB w t x)(hx:Sz T x)(hT:1≤T)(hT3:T≤1000) :
  ar 76 [.slice pa P pc,t.v] w (fun _:Unit=>.int .i64 (cu (P+1) p x)) (fun _ _=>True):=by
 obtain ⟨tn,ta,tl,tc,tb,tm,td⟩:=t;have HX:=Hi (Ext.refl w);have LP:=Hi h.lin;have HT:=Hi ht;have ZX:=Hi hx;have HW:=Hi hW;have HTZ:=Hi htz;have HLn:=Hi h.len;simp only at HLn;clear h ht hx hW htz;unfold ar;go_enter Tryz.func76,Tryz.ntmps76
 go_upto_region 1 with fail
 refine nmA ?_;intro w1 hE B3 hz_w1 hr_w1;refine mV3 hE ?_ HX LP HT;clear HX LP HT;intro HX LP HT;have hs_w1:=hE.size;replace b_B3:=bX3 B3;obtain ⟨b3,hb3⟩:∃ b,b=w.heap.size:=⟨_,rfl⟩;have hw3:w.heap.size≤b3:=zo;rw [←hb3] at B3 ⊢;clear hb3 b_B3;go_wp2
 go_loopg [0] P (fun g v wr=>∃ (qa:Option Addr) (qn qc i:Nat) (q:List Rat),v=.slice qa qn qc∧Ext w wr∧bB wr ⟨qa,qn,qc⟩ q∧aB wr ⟨tn,ta,tl,tc,tb,tm,td⟩ x∧wr.heap[b3]?=some (.cells #[.bool tn,.slice ta tl tc,.slice tb tm td] 34 (0,0))∧tz q=q∧i+g=P∧qn≤g∧(∀ y ∈ q,Wz (S+i) y)∧cu (g+1) q x=cu (P+1) p x)
 case atStart=>exact ⟨pa,P,pc,0,p,rfl,HX.out,LP.out.can,HT.out,B3.out,HTZ.out,zo,nXe _,HW.out,rfl⟩
 case round =>
  obtain ⟨qa,qn,qc,i,q,rfl,g1,g2,g3,g4,g5,g6,g7,g8,g9⟩:=hrel;clear HX LP HT B3;have HX:=Hi g1;have LQ:=Hi g2.lin;have HT:=Hi g3;have B3:=Hi g4;have HQZ:=Hi g5;have HQW:=Hi g8;have HV:=Hi g9;have HQl:=Hi g2.len;simp only at HQl;clear g1 g2 g3 g4 g5 g8 g9;replace b_B3:=bX3 B3;by_cases h0:qn=0
  case pos =>
   subst h0;have HE:Hid (cu (P+1) p x=0):=Hi (by rw [←HV.out,nXj.1 HQl.out,tP]);go_wp2
   go_ret
   exact ⟨(),by rw [HE.out];rfl,HX.out,trivial⟩
  obtain ⟨m,rfl⟩:∃ m,qn=m+1:=⟨qn-1,zo⟩;have hpos:(0:Int)<(m:Int)+1:=zo;have Hne:Hid (q≠[]):=Hi (fun h=>by have:=HQl.out;rw [h] at this;simp at this)
  go_wp2_with fail
  refine cM (cZ qa (m+1) qc q ⟨tn,ta,tl,tc,tb,tm,td⟩ x (S+i) T _ LQ.out.can HT.out zo HQW.out ZX.out hT zo zo hT3) fun x11 w11 hE _=>?_
  refine mV4 hE ?_ HX LQ HT B3;clear HX LQ HT B3;intro HX LQ HT B3;have hs_w11:=hE.size;replace b_B3:=bX3 B3;obtain ⟨s,hs⟩:∃ s,s=Sg.sg (evV q x):=⟨_,rfl⟩;have HS:=Hi hs;rw [←hs];clear hs;obtain ⟨g0,rfl⟩:∃ g0,gk=g0+1:=⟨gk-1,zo⟩;have HST:Hid (cu (g0+1+1) q x=if s≠0 then s else cu (g0+1) (tz (derL q)) x):=Hi (by
   rw [show cu (g0+1+1) q x=if q=[] then 0 else if Sg.sg (evV q x)≠0 then Sg.sg (evV q x) else cu (g0+1) (tz (derL q)) x from rfl,if_neg Hne.out,←HS.out])
  by_cases hs0:s=0
  case neg =>
   have hsb:(s == 0)=false:=by rw [nXs];exact hs0
   have hsb2:(s != 0)=true:=by rw [bne,hsb];rfl
   have HE:Hid (cu (P+1) p x=s):=Hi (by rw [←HV.out,HST.out,if_pos hs0]);go_wp2
   go_ret
   exact ⟨(),by rw [HE.out];rfl,HX.out,trivial⟩
  have HE:Hid (cu (g0+1) (tz (derL q)) x=cu (P+1) p x):=Hi (by rw [←HV.out,HST.out,if_neg (fun h=>h hs0)]);subst hs0;have HQ2:Hid ((tz (derL q)).length+1≤m+1):=Hi (by have:=eM (p:=q) (by rw [HQZ.out];exact Hne.out);have:=HQl.out;omega);have HSZ:Hid (SzL 16777216 q):=Hi (fun y hy=>((HQW.out y hy).sz zo).mono zo)
  go_wp2_with fail
  refine cM (jg qa (m+1) qc q _ (LQ.out.can.raw HSZ.out zo) zo HSZ.out) fun x16 w16 hE G16=>?_
  refine mV4 hE ?_ HX LQ HT B3;clear HX LQ HT B3;intro HX LQ HT B3;have hs_w16:=hE.size;replace b_B3:=bX3 B3;obtain ⟨da,dn,dc⟩:=x16;have HD:Hid (bB w16 ⟨da,dn,dc⟩ (tz (derL q))):=Hi G16.out.can;have hdn:=HD.out.len;simp only at hdn;have hd2:=HQ2.out;simp only [SH.v];go_wp2
  go_roundg g0
  case measure=>omega
  case rel=>exact ⟨da,dn,dc,i+1,_,rfl,HX.out,HD.out,HT.out,B3.out,aC _,zo,zo,fun y hy=>(CY HQW.out (by have:=HQl.out;omega) y hy).mono zo,HE.out⟩
def OkC(K:Nat):Nat→List Rat→Prop
 | 0,_=>True
 | n+1,p=>FrK K p∧FrK K (sqfV p)∧OkC K n (aM p (derL p))
theorem zD{p:List Rat}(h:2≤(tz p).length):(aM p (derL p)).length<p.length:=by
 obtain ⟨n,hn⟩:∃ n,(tz p).length=n+2:=⟨(tz p).length-2,zo⟩;have h1:=rI hn;have h2:=eE (dr p (derL p)).2.1 h1;have h3:=eF p (n+1) hn;rw [nD] at h2;have:=af p;omega
theorem vZ{p:List Rat}{a b:Rat}(h0:tz p≠[])(h:lV p a b≠0):2≤(tz p).length:=by
 apply Classical.byContradiction;intro hn;have hl:(tz p).length=1:=by have:=nYg.2 h0;omega
 apply h;have h1:=eF p 0 hl;have h2:ak (derL p)=[]:=bs.2 (nXj.1 zo);have h3:remsV p=[ak p]:=by
  unfold remsV;rw [h2,dw (fun h=>h0 (bs.1 h))]
 have h4:rootV p=p:=by
  unfold rootV;rw [h3];show (if 2≤(ak p).length then sqfV p else p)=p;rw [if_neg (by rw [ax];omega)]
 have h5:∀ x,cT [ak p] x=0:=fun x=>by
  unfold cT;simp [vr]
 have h6:rtV (remsV (rootV p)) b=false:=by
  cases e:rtV (remsV (rootV p)) b with
  | false=>rfl
  | true =>
   have h7:=(tQ h0 b).1 e;obtain ⟨y,hy⟩:=iC h0;rw [eA zo] at h7 hy;exact absurd h7 hy
 unfold lV;rw [h6,h4,h3,h5,h5,if_neg (by simp)];rfl
theorem qF(pa:Option Addr)(P pc:Nat)(p:List Rat)(K:Nat)(s t:RH)(a b:Rat)(T:Nat)(w:World)(h:bB w ⟨pa,P,pc⟩ p)(hP:P≤49)(h0:tz p≠[])(hok:OkC K (2*(P+1)) p)(hK:K≤12000000)(hK2:(P+1)*(K / 3)≤25000000)
 (hs:aB w s a)(ht:aB w t b)(za:Sz T a)(zb:Sz T b)(hT:1≤T)(hT3:T≤1000) :
  ar 81 [.slice pa P pc,IvV (s,t)] w (fun _:Unit=>.bool (lR (P+1) p a b)) (fun _ _=>True):=by
 obtain ⟨sn,sa,sl,sc,sb,sm,sd⟩:=s;obtain ⟨tn,ta,tl,tc,tb,tm,td⟩:=t;have HX:=Hi (Ext.refl w);have LP:=Hi h.lin;have HS:=Hi hs;have HT:=Hi ht;have ZA:=Hi za;have ZB:=Hi zb;have H0:=Hi h0;have HOK:=Hi hok;have HLn:=Hi h.len;simp only at HLn;clear h hs ht za zb h0 hok;unfold ar;go_enter Tryz.func81,Tryz.ntmps81
 go_upto_region 1 with fail
 refine nmA ?_;intro w1 hE B3 hz_w1 hr_w1;refine mV4 hE ?_ HX LP HS HT;clear HX LP HS HT;intro HX LP HS HT;have hs_w1:=hE.size;replace b_B3:=bX3 B3;obtain ⟨b3,hb3⟩:∃ b,b=w.heap.size:=⟨_,rfl⟩;have hw3:w.heap.size≤b3:=zo;rw [←hb3] at B3 ⊢;clear hb3 b_B3;go_wp2
 go_loopg [0] (P+1) (fun g v wr=>∃ (qa:Option Addr) (qn qc:Nat) (q:List Rat),v=.slice qa qn qc∧Ext w wr∧bB wr ⟨qa,qn,qc⟩ q∧aB wr ⟨sn,sa,sl,sc,sb,sm,sd⟩ a∧aB wr ⟨tn,ta,tl,tc,tb,tm,td⟩ b∧wr.heap[b3]?=some (.cells #[.bool sn,.slice sa sl sc,.slice sb sm sd,.bool tn,.slice ta tl tc,.slice tb tm td] 38 (0,0))∧tz q≠[]∧qn+1≤g∧qn≤P∧OkC K (2*g) q∧lR g q a b=lR (P+1) p a b)
 case atStart=>exact ⟨pa,P,pc,p,rfl,HX.out,LP.out.can,HS.out,HT.out,B3.out,H0.out,nXe _,nXe _,HOK.out,rfl⟩
 case round =>
  obtain ⟨qa,qn,qc,q,rfl,g1,g2,g3,g4,g5,g6,g7,g8,g9,g10⟩:=hrel;clear HX LP HS HT B3;have HX:=Hi g1;have LQ:=Hi g2.lin;have HS:=Hi g3;have HT:=Hi g4;have B3:=Hi g5;have HQ0:=Hi g6;have HQl:=Hi g2.len;simp only at HQl;obtain ⟨g0,rfl⟩:∃ g0,gk=g0+1:=⟨gk-1,zo⟩;rw [show 2*(g0+1)=2*g0+1+1 by omega] at g9;obtain ⟨k1,k2,k3,k4,k5⟩:=g9;have HK1:=Hi k1;have HK2:=Hi k2;have HK3:Hid (FrK K (aM q (derL q))):=Hi k3;have HK4:Hid (FrK K (sqfV (aM q (derL q)))):=Hi k4;have HK5:=Hi k5;have HV:=Hi g10;clear g1 g2 g3 g4 g5 g6 g10 k1 k2 k3 k4 k5;have hmul:(qn+1)*(K / 3)≤(P+1)*(K / 3):=nXh _ zo;have HMS:Hid (0<(remsV (rootV q)).length):=Hi (kj (eV HQ0.out).ne);replace b_B3:=bX3 B3;obtain ⟨o,ho⟩:∃ o,o=lV q a b:=⟨_,rfl⟩;have HO:=Hi ho;clear ho
  go_upto_region 1 with fail
  refine wpG 8 (fun opIx=>match opIx with
   | 1=>.spec (SH) (default) (CV) (fun x w'=>ChK w' x (remsV (rootV q)) K)
   | 6=>sU (.int .i64 o)
   | _=>.quiet) (fun|6=>[1]|_=>[]) fun w0 he0 hz0 hc0 hf0=>?_
  refine wps he0 (fun w1 hW hG=>?_) fun x20=>?_
  ·exact spc [.slice qa qn qc] Tryz.func70 (qC qa qn qc q K _ (LQ.out.can.ext hW) zo HQ0.out HK1.out hK zo HK2.out)
  refine qZ ?_;refine wps he0 (fun w1 hW hG=>?_) fun x21=>?_
  ·have g20:=gS (hG 1 dZ);exact spc [CV x20,RH.v ⟨sn,sa,sl,sc,sb,sm,sd⟩,RH.v ⟨tn,ta,tl,tc,tb,tm,td⟩] Tryz.func148 ((by rw [HO.out];exact qG x20 (remsV (rootV q)) K ⟨sn,sa,sl,sc,sb,sm,sd⟩ ⟨tn,ta,tl,tc,tb,tm,td⟩ a b T _ g20 HMS.out (HS.out.ext hW) (HT.out.ext hW) ZA.out ZB.out hT hT3))
  refine qZ ?_;refine am ?_;intro w2 hI;have hE:=he0.out.trans hI.ext;have G20:=gT (hI.facts 1);clear hI he0 hz0 hc0 hf0;refine mV5 hE ?_ HX B3 LQ HS HT;clear HX B3 LQ HS HT;intro HX B3 LQ HS HT;have hs_w2:=hE.size;replace b_B3:=bX3 B3;simp only [pD];clear G20;have HST:Hid (lR (g0+1) q a b=if o=0 then false else if lV (aM q (derL q)) a b≠o then true else lR g0 (aM (aM q (derL q)) (derL (aM q (derL q)))) a b):=Hi (by rw [HO.out];rfl);by_cases ho0:o=0
  case pos =>
   subst ho0;have HE:Hid (lR (P+1) p a b=false):=Hi (by rw [←HV.out,HST.out,if_pos rfl]);go_wp2
   go_ret
   exact ⟨(),by rw [HE.out];rfl,HX.out,trivial⟩
  have hob:(o == 0)=false:=by rw [nXs];exact ho0
  have HQ2:Hid (2≤(tz q).length):=Hi (vZ HQ0.out (by rw [←HO.out];exact ho0));have HG0:Hid (tz (aM q (derL q))≠[]):=Hi (iu HQ0.out);have HGl:Hid ((aM q (derL q)).length<qn):=Hi (by have:=zD HQ2.out;have:=HQl.out;omega);obtain ⟨S17,D17,hS17,hD17,hDW17,hF17,hSK17⟩:=HK1.out;have HF17:Hid (FrL S17 D17 q):=Hi hF17;have hs17:=KZ.small hSK17;have HSK17:Hid (GZ K (S17+1) q (tz (derL q))):=Hi (uP hD17 hF17 (by have:=LQ.out.len;simp only at this;omega) HQ0.out hSK17);have HSz17:Hid (SzL S17 q):=Hi (hF17.sz hS17 hD17 hDW17);have hDV17:D17<W32 ^ (S17+1):=nXn hDW17 (nXp aw zo);have HDF17:Hid (∀ x ∈ tz (derL q),Fr (S17+1) D17 x):=Hi (eZ hF17 (by have:=LQ.out.len;simp only at this;omega));have HDl17:Hid ((tz (derL q)).length+1≤qn):=Hi (by have:=eM HQ0.out;have:=LQ.out.len;simp only at this;omega);clear hF17 hSK17
  go_wp2_with fail
  refine cM (jg qa qn qc q _ (LQ.out.can.raw HSz17.out zo) zo (HSz17.out.mono zo)) fun x17 w17 hE G17=>?_
  refine mV5 hE ?_ HX B3 LQ HS HT;clear HX B3 LQ HS HT;intro HX B3 LQ HS HT;have hs_w17:=hE.size;replace b_B3:=bX3 B3;obtain ⟨da17,dn17,dc17⟩:=x17;have HD17:Hid (LIn w17 ⟨da17,dn17,dc17⟩ (tz (derL q)) 0 w17.heap.size):=Hi G17.out.can.lin;clear G17;have hdn17:dn17+1≤qn:=by have h1:=HD17.out.len;have h2:=HDl17.out;simp only at h1;omega
  simp only [SH.v]
  go_wp2_with fail
  refine cM (qR qa da17 qn qc dn17 dc17 q (tz (derL q)) (S17+1) D17 D17 _ LQ.out.can HD17.out.can zo zo zo hD17 hDV17 hD17 hDV17 (HF17.out.mono zo) HDF17.out K HSK17.out zo) fun x18 w18 hE G18=>?_
  refine mV6 hE ?_ HX B3 LQ HS HT HD17;clear HX B3 LQ HS HT HD17;intro HX B3 LQ HS HT HD17;have hs_w18:=hE.size;replace b_B3:=bX3 B3;rw [hZ] at G18;obtain ⟨ga18,gn18,gc18⟩:=x18;have LG:=Hi G18.out.1.lin;clear G18 HF17 HDF17 HSz17 HSK17;clear HD17;simp only [SH.v];have hgn:gn18<qn:=by have h1:=LG.out.len;have h2:=HGl.out;simp only at h1;omega
  have hmul2:(gn18+1)*(K / 3)≤(P+1)*(K / 3):=nXh _ zo;have HMS2:Hid (0<(remsV (rootV (aM q (derL q)))).length):=Hi (kj (eV HG0.out).ne);obtain ⟨r,hr⟩:∃ r,r=aM q (derL q):=⟨_,rfl⟩;rw [←hr] at LG HG0 HMS2 HK3 HK4 HK5 HST;clear hr HGl HMS;obtain ⟨o2,ho2⟩:∃ o,o=lV r a b:=⟨_,rfl⟩;have HO2:=Hi ho2;rw [←ho2] at HST;clear ho2;clear LQ
  go_upto_region 5 with fail
  refine wpG 9 (fun opIx=>match opIx with
   | 1=>.spec (SH) (default) (CV) (fun x w'=>ChK w' x (remsV (rootV r)) K)
   | 6=>sU (.int .i64 o2)
   | _=>.quiet) (fun|6=>[1]|_=>[]) fun w0 he0 hz0 hc0 hf0=>?_
  refine wps he0 (fun w1 hW hG=>?_) fun x30=>?_
  ·exact spc [.slice ga18 gn18 gc18] Tryz.func70 (qC ga18 gn18 gc18 r K _ (LG.out.can.ext hW) zo HG0.out HK3.out hK zo HK4.out)
  refine qZ ?_;refine wps he0 (fun w1 hW hG=>?_) fun x31=>?_
  ·have g30:=gS (hG 1 dZ);exact spc [CV x30,RH.v ⟨sn,sa,sl,sc,sb,sm,sd⟩,RH.v ⟨tn,ta,tl,tc,tb,tm,td⟩] Tryz.func148 ((by rw [HO2.out];exact qG x30 (remsV (rootV r)) K ⟨sn,sa,sl,sc,sb,sm,sd⟩ ⟨tn,ta,tl,tc,tb,tm,td⟩ a b T _ g30 HMS2.out (HS.out.ext hW) (HT.out.ext hW) ZA.out ZB.out hT hT3))
  refine qZ ?_;refine am ?_;intro w3 hI;have hE:=he0.out.trans hI.ext;have G30:=gT (hI.facts 1);clear hI he0 hz0 hc0 hf0;refine mV5 hE ?_ HX B3 LG HS HT;clear HX B3 LG HS HT;intro HX B3 LG HS HT;have hs_w3:=hE.size;replace b_B3:=bX3 B3;simp only [pD];clear G30;by_cases ho3:o2=o
  case neg =>
   have hb1:(o2 == o)=false:=by rw [nXs];exact ho3
   have hb2:(o2 != o)=true:=by rw [bne,hb1];rfl
   have HE:Hid (lR (P+1) p a b=true):=Hi (by rw [←HV.out,HST.out,if_neg ho0,if_pos ho3]);go_wp2
   go_ret
   exact ⟨(),by rw [HE.out];rfl,HX.out,trivial⟩
  have HE:Hid (lR g0 (aM r (derL r)) a b=lR (P+1) p a b):=Hi (by rw [←HV.out,HST.out,if_neg ho0,if_neg (fun h=>h ho3)]);subst ho3;have HR0:Hid (tz (aM r (derL r))≠[]):=Hi (iu HG0.out);have HRl:Hid ((aM r (derL r)).length≤gn18):=Hi (by have h1:=nC HG0.out;have h2:=LG.out.len;simp only at h2;omega);obtain ⟨S30,D30,hS30,hD30,hDW30,hF30,hSK30⟩:=HK3.out;have HF30:Hid (FrL S30 D30 r):=Hi hF30;have hs30:=KZ.small hSK30;have HSK30:Hid (GZ K (S30+1) r (tz (derL r))):=Hi (uP hD30 hF30 (by have:=LG.out.len;simp only at this;omega) HG0.out hSK30);have HSz30:Hid (SzL S30 r):=Hi (hF30.sz hS30 hD30 hDW30);have hDV30:D30<W32 ^ (S30+1):=nXn hDW30 (nXp aw zo);have HDF30:Hid (∀ x ∈ tz (derL r),Fr (S30+1) D30 x):=Hi (eZ hF30 (by have:=LG.out.len;simp only at this;omega));have HDl30:Hid ((tz (derL r)).length+1≤gn18):=Hi (by have:=eM HG0.out;have:=LG.out.len;simp only at this;omega);clear hF30 hSK30
  go_wp2_with fail
  refine cM (jg ga18 gn18 gc18 r _ (LG.out.can.raw HSz30.out zo) zo (HSz30.out.mono zo)) fun x30 w30 hE G30=>?_
  refine mV5 hE ?_ HX B3 LG HS HT;clear HX B3 LG HS HT;intro HX B3 LG HS HT;have hs_w30:=hE.size;replace b_B3:=bX3 B3;obtain ⟨da30,dn30,dc30⟩:=x30;have HD30:Hid (LIn w30 ⟨da30,dn30,dc30⟩ (tz (derL r)) 0 w30.heap.size):=Hi G30.out.can.lin;clear G30;have hdn30:dn30+1≤gn18:=by have h1:=HD30.out.len;have h2:=HDl30.out;simp only at h1;omega
  simp only [SH.v]
  go_wp2_with fail
  refine cM (qR ga18 da30 gn18 gc18 dn30 dc30 r (tz (derL r)) (S30+1) D30 D30 _ LG.out.can HD30.out.can zo zo zo hD30 hDV30 hD30 hDV30 (HF30.out.mono zo) HDF30.out K HSK30.out zo) fun x31 w31 hE G31=>?_
  refine mV6 hE ?_ HX B3 LG HS HT HD30;clear HX B3 LG HS HT HD30;intro HX B3 LG HS HT HD30;have hs_w31:=hE.size;replace b_B3:=bX3 B3;rw [hZ] at G31;obtain ⟨ga31,gn31,gc31⟩:=x31;have LR:=Hi G31.out.1.lin;clear G31 HF30 HDF30 HSz30 HSK30;clear HD30;simp only [SH.v];have hrn:gn31≤gn18:=by have h1:=LR.out.len;have h2:=HRl.out;simp only at h1;omega
  go_wp2
  go_roundg g0
  case measure=>omega
  case rel=>exact ⟨ga31,gn31,gc31,_,rfl,HX.out,LR.out.can,HS.out,HT.out,B3.out,HR0.out,zo,zo,HK5.out,HE.out⟩
end Go.Proofs.YtafgmcimcbhhjaaGreat
/- What Nonnegative and Positive say of the values. Plain facts. -/
namespace Go.Proofs.YtafgmcimcbhhjaaGreat.Sg
open Go.RowKit Go.Front Go.Num Go.Stab Go.Proofs.YtafgmcimcbhhjaaGreat
theorem xY{g h a b:Rat→Rat}(hg:IsG g a b)(hh:IsG h a b)(pg:Pf g)(ph:Pf h)(h0:∃ x,a x≠0):∃ c:Rat,c≠0∧∀ x,g x=c*h x:=by
 have one:∀ {g h:Rat→Rat},IsG g a b→IsG h a b→Pf g→Pf h→Dv g h:=fun {g h} hg hh _ _=>by
  obtain ⟨-,-,u,v,hu,hv,e⟩:=hh;obtain ⟨x1,hx1,e1⟩:=hg.1;obtain ⟨x2,hx2,e2⟩:=hg.2.1;exact ⟨_,(hu.mul hx1).add (hv.mul hx2),fun x=>by rw [e x,e1 x,e2 x];grind⟩
 obtain ⟨c1,⟨cl,rfl⟩,k1⟩:=one hh hg ph pg;obtain ⟨c2,p2,k2⟩:=one hg hh pg ph;have hgx:∃ x,g x≠0:=by
  obtain ⟨y,hy⟩:=h0;obtain ⟨x1,hx1,e1⟩:=hg.1;exact ⟨y,fun h=>hy (by rw [e1,h];grind)⟩
 have k3:∀ x,evV cl x*c2 x=1:=cH (f:=g) (g:=fun x=>evV cl x*c2 x) (h:=fun _=>1) pg ((Pf.ev cl).mul p2) (Pf.const 1) (fun x=>by
  have e1:=k1 x;rw [k2 x] at e1;grind) hgx
 have hd:Dv (evV cl) (evV [(1:Rat)]):=⟨c2,p2,fun x=>by rw [k3 x];show 0*x+1=1;grind⟩;have hl:=eE hd (fun h=>by have:=av.1 h 0;exact absurd this (by show (0*0+1:Rat)≠0;grind));have hl2:=af [(1:Rat)];simp only [List.length_cons,List.length_nil] at hl2;have h2:=eA (p:=cl) zo;refine ⟨seq cl 0,fun h=>?_,fun x=>by rw [k1 x,h2 x];grind⟩;have:=k3 0;rw [h2 0,h] at this;grind
theorem DG{c x:Rat}(h:0<c):sg (c*x)=sg x:=by rw [df,cU h];omega
theorem kN{p:List Rat}(h:tz p≠[])(x:Rat):sg (evV (ak p) x)=sg (evV p x):=by rw [bM p x,DG (aW h)]
theorem Cu{p:List Rat}{g r:Rat→Rat}(h:tz p≠[])(h1:∀ x,evV p x=g x*r x):(∃ x,g x≠0)∧∃ x,r x≠0:=by
 obtain ⟨y,hy⟩:=iC h;exact ⟨⟨y,fun h=>hy (by rw [h1,h];grind)⟩,⟨y,fun h=>hy (by rw [h1,h];grind)⟩⟩
theorem qI{q:List Rat}(h:tz q≠[]){r:Rat→Rat}(hr:Pf r)(h1:∀ x,evV q x=evV (aM q (derL q)) x*r x):∃ c:Rat,c≠0∧∀ x,evV (rootV q) x=c*r x:=by
 obtain ⟨hne,hcp,g,q1,hg,hq1,hG,k1,k2⟩:=eV h;obtain ⟨c,hc,k3⟩:=xY (rF (dr q (derL q))) hG (Pf.ev _) hg (iC h);refine ⟨c,hc,cH (f:=g) (g:=evV (rootV q)) (h:=fun x=>c*r x) hg (Pf.ev _) (hr.smul c) (fun x=>?_) (Cu h k1).1⟩;rw [←k1 x,h1 x,k3 x];grind
theorem nN{q:List Rat}(h:tz q≠[]){lo hi:Rat}(hlh:lo<hi){l:List (List Rat)}(e:remsV (rootV q)=ak (rootV q) :: l) :
  lV q lo hi=(V (evV (ak (rootV q))) (l.map evV) lo:Int)-V (evV (ak (rootV q))) (l.map evV) hi-(if evV (ak (rootV q)) hi=0 then 1 else 0):=by
 unfold lV;rw [jW e,jW e];have hr:=eV h;have k:(rtV (remsV (rootV q)) hi=true∧lo<hi)↔evV (ak (rootV q)) hi=0:=by
  rw [tQ h hi,i6 hr.ne hi,hr.root h hi];exact ⟨fun a=>a.1,fun a=>⟨a,hlh⟩⟩
 by_cases h2:evV (ak (rootV q)) hi=0
 ·rw [if_pos h2,if_pos (k.2 h2)]
 ·rw [if_neg h2,if_neg (fun a=>h2 (k.1 a))]
theorem Bo(lo hi:Rat):BK (fun x=>lo<x∧x<hi):=fun s t u h1 h2 h3 h4=>⟨by have:=h1.1;grind,by have:=h2.2;grind⟩
theorem Bp(lo hi:Rat):BK (fun x=>lo≤x∧x≤hi):=fun s t u h1 h2 h3 h4=>⟨by have:=h1.1;grind,by have:=h2.2;grind⟩
theorem iY{I:Rat→Prop}{r:List Rat}(h:tz r≠[])(hs:eH I (evV (ak r))):eH I (evV r):=hs.smul (c:=aH r) (fun h0=>by have:=aW h;rw [h0] at this;exact absurd this Rat.lt_irrefl) (bM r)
theorem qx{I:Rat→Prop}(hI:BK I){q r:List Rat}(h:tz q≠[])(hr:Rt q r)(hs:eH I (evV r)):eH I (evV q):=by
 obtain ⟨hne,hcp,g,q1,⟨gl,rfl⟩,hq1,hG,k1,k2⟩:=hr;exact mq hI _ q (nXe _) h gl _ (Pf.ev r) hG k1 hs
theorem oX{lo hi:Rat}(hlh:lo<hi){q:List Rat}(h0:tz q≠[]):tz (aM q (derL q))≠[]∧IsG (evV (aM q (derL q))) (evV q) (evD q)∧∃ (r1:Rat→Rat) (wl:List Rat) (lw:List (List Rat)),Pf r1∧tz wl≠[]∧(∀ x,evV (aM q (derL q)) x=evV (aM (aM q (derL q)) (derL (aM q (derL q)))) x*r1 x)∧(∀ x,evV q x=evV (aM q (derL q)) x*(r1 x*evV wl x))∧Cp r1 (evV wl)∧(∀ A B,Fit A B (evV (ak wl)) (lw.map evV)) ∧
  lV q lo hi=lV (aM q (derL q)) lo hi+((V (evV (ak wl)) (lw.map evV) lo:Int)-V (evV (ak wl)) (lw.map evV) hi-(if evV (ak wl) hi=0 then 1 else 0)):=by
 have hr:=eV h0;obtain ⟨l,e,hfit⟩:=A2 hr.ne hr.cp;have hb:=nN h0 hlh e;have hG:=rF (dr q (derL q));have hg0:=iu h0;have hq:=jf hg0 (j1 q);obtain ⟨-,⟨r',hr',hd,hcp⟩,r1,w,hr1,⟨wl,rfl⟩,e1,e4,hcw⟩:=dec h0 hG (Pf.ev _) hq;obtain ⟨c0,hc0,f0⟩:=qI h0 (Pf.ev _) hq;obtain ⟨c1,hc1,f1⟩:=qI hg0 hr1 e1;have hw0:tz wl≠[]:=fun h=>by
  obtain ⟨y,hy⟩:=(Cu h0 hq).2;exact hy (by rw [e4,av.1 h y];grind)
 have hww:=(zN hr1 (Pf.ev wl) e4 hd hcp).2 _ (Pf.der wl) (IsD.ev wl);obtain ⟨lw,ew,hfw⟩:=A2 hw0 hww;have hR1:=eV hg0;obtain ⟨l1,el1,hf1⟩:=A2 hR1.ne hR1.cp;have hb1:=nN hg0 hlh el1;have hcc:c0≠0∧c1≠0:=⟨hc0,hc1⟩;have hci:=nYj _ hc1;have hk:c0*c1⁻¹≠0:=fun h=>by
  rcases nXr.1 h with h|h
  ·exact hc0 h
  ·rw [h,nYb] at hci;exact absurd hci dZ
 have hrel:∀ x,evV (rootV q) x=c0*c1⁻¹*(evV (rootV (aM q (derL q))) x*evV wl x):=fun x=>by
  rw [f0 x,f1 x,e4 x];have:c0*c1⁻¹*(c1*r1 x*evV wl x)=c0*(c1*c1⁻¹)*(r1 x*evV wl x):=by grind
  rw [this,hci];grind
 have hcp1:Cp (evV (rootV (aM q (derL q)))) (evV wl):=by
  obtain ⟨u,v,hu,hv,k⟩:=hcw;refine ⟨_,v,hu.smul c1⁻¹,hv,fun x=>?_⟩;rw [f1 x];have:c1⁻¹*u x*(c1*r1 x)=(c1*c1⁻¹)*(u x*r1 x):=by grind
  show c1⁻¹*u x*(c1*r1 x)+v x*evV wl x=1;rw [this,hci,Rat.one_mul,k x]
 have hcp2:Cp (evV (ak (rootV (aM q (derL q))))) (evV (ak wl)):=by
  obtain ⟨u,v,hu,hv,k⟩:=hcp1;refine ⟨_,_,hu.smul (aH (rootV (aM q (derL q)))),hv.smul (aH wl),fun x=>?_⟩;have:=k x;rw [bM (rootV (aM q (derL q))) x,bM wl x] at this;show aH (rootV (aM q (derL q)))*u x*_+aH wl*v x*_=1;grind
 have hva:=Du (hfit lo hi) (hf1 lo hi) (hfw lo hi) (Pf.ev _) (Pf.ev _) hcp2 (z:=sg (c0*c1⁻¹)) (gv hk) (fun x=>by
  rw [kN hr.ne,kN hR1.ne,kN hw0,hrel x];exact (df _ _).trans (congrArg _ (df _ _))) lo hi Rat.le_refl hlh Rat.le_refl
 have hroot:(if evV (ak (rootV q)) hi=0 then (1:Int) else 0)=(if evV (ak (rootV (aM q (derL q)))) hi=0 then 1 else 0)+(if evV (ak wl) hi=0 then 1 else 0):=by
  have a1:=i6 hr.ne hi;have a2:=i6 hR1.ne hi;have a3:=i6 hw0 hi;obtain ⟨u,v,hu,hv,k⟩:=hcp1;have k4:=k hi;have k5:=hrel hi;by_cases b2:evV (rootV (aM q (derL q))) hi=0
  ·have b3:evV wl hi≠0:=fun h=>by rw [b2,h] at k4;grind
   rw [if_pos (a1.2 (by rw [k5,b2];grind)),if_pos (a2.2 b2),if_neg (fun h=>b3 (a3.1 h))];rfl
  ·by_cases b3:evV wl hi=0
   ·rw [if_pos (a1.2 (by rw [k5,b3];grind)),if_neg (fun h=>b2 (a2.1 h)),if_pos (a3.2 b3)];rfl
   ·rw [if_neg (fun h=>by
     have h':=a1.1 h;rw [k5] at h';rcases nXr.1 h' with h2|h2
     ·exact hk h2
     ·rcases nXr.1 h2 with h3|h3
      ·exact b2 h3
      ·exact b3 h3),if_neg (fun h=>b2 (a2.1 h)),if_neg (fun h=>b3 (a3.1 h))];rfl
 refine ⟨hg0,hG,r1,wl,lw,hr1,hw0,e1,fun x=>by rw [hq x,e4 x],hcw,hfw,?_⟩;rw [hb,hb1,hroot];generalize (if evV (ak (rootV (aM q (derL q)))) hi=0 then (1:Int) else 0)=i1;generalize (if evV (ak wl) hi=0 then (1:Int) else 0)=i2;omega
theorem vW{lo hi:Rat}(hlh:lo<hi):∀ (n:Nat) (q:List Rat),(tz q).length<n→tz q≠[]→lR n q lo hi=false→∀ s t,lo<s→s<hi→lo<t→t<hi→s<t→evV q s≠0→evV q t≠0→sg (evV q s)=sg (evV q t):=by
 intro n;induction n with
 | zero=>intro q h;omega
 | succ n ih =>
  intro q hn h0 hc s t s1 s2 t1 t2 hst hs0 ht0;have hce:lR (n+1) q lo hi=if lV q lo hi=0 then false else if lV (aM q (derL q)) lo hi≠lV q lo hi then true else lR n (aM (aM q (derL q)) (derL (aM q (derL q)))) lo hi:=rfl
  rw [hce] at hc;by_cases hz:lV q lo hi=0
  ·have hr:=eV h0;obtain ⟨l,e,hfit⟩:=A2 hr.ne hr.cp;have hb:=nN h0 hlh e;have hst':=lN hfit hlh (by
    by_cases hh:evV (ak (rootV q)) hi=0
    ·rw [if_pos hh] at hb ⊢;omega
    ·rw [if_neg hh] at hb ⊢;omega)
   exact (qx (Bo lo hi) h0 hr (iY hr.ne hst') s t ⟨s1,s2⟩ ⟨t1,t2⟩ hst).2.2
  ·rw [if_neg hz] at hc;by_cases hz2:lV (aM q (derL q)) lo hi=lV q lo hi
   ·rw [if_neg (fun h=>h hz2)] at hc;obtain ⟨hg0,hG,r1,wl,lw,hr1,hw0,e1,e4,hcw,hfw,hbb⟩:=oX hlh h0;have hwst:eH (fun x=>lo<x∧x<hi) (evV (ak wl)):=lN hfw hlh (by
     by_cases hh:evV (ak wl) hi=0
     ·rw [if_pos hh] at hbb ⊢;omega
     ·rw [if_neg hh] at hbb ⊢;omega)
    have hwl:=iY hw0 hwst;have hlen1:=vZ h0 hz;have hq2:=ih _ (by
     have g1:=zD hlen1;have g2:=nC hg0;have g3:=nD (aM q (derL q)) (derL (aM q (derL q)));have g4:=nD q (derL q);have hqt:=eE (j1 q) h0;have hl:1<(tz (aM q (derL q))).length∨(tz (aM q (derL q))).length≤1:=zo;rw [g3];rcases hl with hl|hl
     ·have:=CM h0 hG hl;rw [g4] at this;omega
     ·rw [g4] at hl;omega) (iu hg0) hc s t s1 s2 t1 t2 hst
    have hfac:∀ x,evV q x=evV (aM (aM q (derL q)) (derL (aM q (derL q)))) x*(r1 x*r1 x)*evV wl x:=fun x=>by
     rw [e4 x,e1 x];grind
    have hne:∀ x,evV q x≠0→evV (aM (aM q (derL q)) (derL (aM q (derL q)))) x≠0∧r1 x≠0:=fun x hx=>⟨fun h=>hx (by rw [hfac,h];grind),fun h=>hx (by rw [hfac,h];grind)⟩
    have hsq:∀ x,r1 x≠0→sg (r1 x*r1 x)=1:=fun x hx=>by
     refine cU ?_;rcases tri (r1 x) 0 with h|h|h
     ·have:=Rat.mul_pos (a:=-(r1 x)) (b:=-(r1 x)) (by grind) (by grind);grind
     ·exact absurd h hx
     ·exact Rat.mul_pos h h
    obtain ⟨m1,m2⟩:=hne s hs0;obtain ⟨m3,m4⟩:=hne t ht0;have key:∀ x,r1 x≠0→sg (evV q x)=sg (evV (aM (aM q (derL q)) (derL (aM q (derL q)))) x)*sg (evV wl x):=fun x hx=>by
     rw [hfac x,df _ (evV wl x),df _ (r1 x*r1 x),hsq x hx,Int.mul_one]
    rw [key s m2,key t m4,hq2 m1 m3,(hwl s t ⟨s1,s2⟩ ⟨t1,t2⟩ hst).2.2]
   ·rw [if_pos hz2] at hc;exact absurd hc dZ
theorem lg{a:Rat}:∀ (k:Nat) (p:List Rat) (g:Rat→Rat),Pf g→tz p≠[]→(∀ x,evV p x=(x-a) ^ k*g x)→k<(tz p).length:=by
 intro k;induction k with
 | zero=>intro p g _ h _;exact nYg.2 h
 | succ k ih =>
  intro p g hg h he;obtain ⟨q,hq⟩:=((Pf.lin a).pow k).mul hg;have hq2:∀ x,evV q x=(x-a) ^ k*g x:=fun x=>by rw [←hq]
  have h1:∀ x,evV p x=(x-a)*evV q x:=fun x=>by rw [he x,hq2 x,Rat.pow_succ];grind
  have hq0:tz q≠[]:=fun h2=>by
   obtain ⟨y,hy⟩:=iC h;exact hy (by rw [h1,av.1 h2 y];grind)
  have:=ih q g hg hq0 hq2;have:=pM h1 hq0;omega
theorem iw(l:List Rat)(x:Rat):evV (tz l) x=evV l x:=(eL (c:=1) (fun i=>by rw [aT,Rat.one_mul]) x).trans (Rat.one_mul _)
theorem jD{a:Rat}:∀ (k n:Nat) (q:List Rat) (g:Rat→Rat),k<n→Pf g→g a≠0→(∀ x,evV q x=(x-a) ^ k*g x)→cu n q a=sg (g a):=by
 intro k;induction k with
 | zero =>
  intro n q g hk hg hga he;obtain ⟨m,rfl⟩:∃ m,n=m+1:=⟨n-1,zo⟩;have h1:evV q a=g a:=by rw [he a,Rat.pow_zero];grind
  have hq:q≠[]:=fun h=>hga (by rw [←h1,h];rfl)
  show (if q=[] then 0 else if sg (evV q a)≠0 then sg (evV q a) else cu m (tz (derL q)) a)=_;rw [if_neg hq,h1,if_pos (gv hga)]
 | succ k ih =>
  intro n q g hk hg hga he;obtain ⟨m,rfl⟩:∃ m,n=m+1:=⟨n-1,zo⟩;have h1:evV q a=0:=by rw [he a,Rat.pow_succ];grind
  have hq:q≠[]:=fun h=>by
   have h2:∀ x,(x-a) ^ (k+1)*g x=0:=fun x=>by rw [←he x,h];rfl
   have h3:=qS ((Pf.lin a).pow (k+1)) hg h2 ⟨a+1,by
    show (a+1-a) ^ (k+1)≠0;have e:a+1-a=1:=by grind
    rw [e];have:∀ k:Nat,(1:Rat) ^ k=1:=fun k=>by
     induction k with
     | zero=>exact Rat.pow_zero _
     | succ k ih=>rw [Rat.pow_succ,ih,Rat.mul_one]
    rw [this];decide⟩
   exact hga (h3 a)
  show (if q=[] then 0 else if sg (evV q a)≠0 then sg (evV q a) else cu m (tz (derL q)) a)=_;rw [if_neg hq,h1,if_neg (fun h=>h eT)];obtain ⟨g',hg',hd⟩:=lh hg;have h4:=(IsD.mul (IsD.pow a k) hd ((Pf.lin a).pow (k+1)) hg (((Pf.lin a).pow k).smul _)).uniq (by
   have e:=IsD.ev q;rw [show evV q=fun x=>(x-a) ^ (k+1)*g x from funext he] at e;exact e)
  have hpos:(0:Rat)<((k+1:Nat):Rat):=Rat.natCast_pos.2 (Nat.succ_pos k);have h5:=ih m (tz (derL q)) (fun x=>((k+1:Nat):Rat)*g x+(x-a)*g' x) zo ((hg.smul _).add ((Pf.lin a).mul hg')) (fun h=>by
   have h6:((k+1:Nat):Rat)*g a+(a-a)*g' a=0:=h;have h7:((k+1:Nat):Rat)*g a=0:=by grind
   rcases nXr.1 h7 with h8|h8
   ·rw [h8] at hpos;exact absurd hpos Rat.lt_irrefl
   ·exact hga h8) (fun x=>by
   rw [iw,bX,←h4 x,Rat.pow_succ];grind)
  rw [h5];show sg (((k+1:Nat):Rat)*g a+(a-a)*g' a)=sg (g a);rw [show ((k+1:Nat):Rat)*g a+(a-a)*g' a=((k+1:Nat):Rat)*g a by grind,DG hpos]
theorem Ed{g:Rat→Rat}(hg:Pf g){a:Rat}(h:0<g a):∃ e,0<e∧∀ s,a≤s→s<a+e→0<g s:=by
 obtain ⟨K,hK,k1⟩:=hg.lip a (a+1);obtain ⟨e,he,k2⟩:=dC hK h;obtain ⟨c,hc,c1,c2⟩:=cx he (show (0:Rat)<1 by decide);refine ⟨c,hc,fun s h1 h2=>?_⟩;have h3:=(Big.sign (r:=g a) k1 (Or.inl Rat.le_refl) Rat.le_refl h1 (by grind) (k2 _ (by grind))).1;rw [cU h] at h3;rcases bp (g s) with ⟨h4,h5⟩|⟨h4,h5⟩|⟨h4,h5⟩
 ·rw [h5] at h3;exact absurd h3 dZ
 ·rw [h5] at h3;exact absurd h3 dZ
 ·exact h4
theorem tN{q:List Rat}(h0:tz q≠[]){a:Rat}{n:Nat}(hn:(tz q).length≤n)(h:0<cu n q a){b:Rat}(hb:a<b):∃ s,a<s∧s<b∧0<evV q s:=by
 obtain ⟨k,g,hg,hga,he⟩:=AP a _ q (nXe _) h0;have hk:=lg k q g hg h0 he;rw [jD k n q g zo hg hga he] at h;have hgp:0<g a:=by
  rcases bp (g a) with ⟨h4,h5⟩|⟨h4,h5⟩|⟨h4,h5⟩
  ·rw [h5] at h;exact absurd h dZ
  ·rw [h5] at h;exact absurd h dZ
  ·exact h4
 obtain ⟨e,he0,h1⟩:=Ed hg hgp;obtain ⟨c,hc,c1,c2⟩:=cx he0 (show 0<b-a by grind);have hmid:0<c / 2∧c / 2<c:=by
  have:=aA (a:=c) (b:=2) dZ;exact ⟨by grind,by grind⟩
 refine ⟨a+c / 2,by grind,by grind,?_⟩;rw [he];have h2:=h1 (a+c / 2) (by grind) (by grind);have h3:∀ k:Nat,0<(a+c / 2-a) ^ k:=fun k=>Rat.pow_pos (by grind)
 exact Rat.mul_pos (h3 k) h2
theorem pr{q:Rat}(h:¬ sg q<0):0≤q:=by
 rcases bp q with ⟨h4,h5⟩|⟨h4,h5⟩|⟨h4,h5⟩
 ·rw [h5] at h;exact absurd dZ h
 ·grind
 ·grind
theorem DE{q:Rat}(h:¬ sg q≤0):0<q:=by
 rcases bp q with ⟨h4,h5⟩|⟨h4,h5⟩|⟨h4,h5⟩
 ·rw [h5] at h;exact absurd dZ h
 ·rw [h5] at h;exact absurd dZ h
 ·exact h4
theorem xF{p:List Rat}{lo hi:Rat}(htz:tz p=p)(hlh:lo≤hi)(h:dX p lo hi=true){x:Rat}(h1:lo≤x)(h2:x≤hi):0≤evV p x:=by
 unfold dX at h;by_cases h0:tz p=[]
 ·rw [←htz,h0];exact Rat.le_refl
 ·rw [if_neg h0] at h;by_cases h3:sg (evV (ak p) lo)<0∨sg (evV (ak p) hi)<0
  ·rw [if_pos h3] at h;exact absurd h dZ
  ·rw [if_neg h3] at h;have hl:0≤evV p lo:=pr (by rw [←kN h0];exact fun k=>h3 (Or.inl k));have hh:0≤evV p hi:=pr (by rw [←kN h0];exact fun k=>h3 (Or.inr k));by_cases h4:lo=hi
   ·have:x=lo:=by grind
    rw [this];exact hl
   ·rw [if_neg h4,Bool.and_eq_true,decide_eq_true_iff] at h;obtain ⟨k1,k2⟩:=h;have k3:lR ((tz p).length+1) (ak p) lo hi=false:=by
     cases e:lR ((tz p).length+1) (ak p) lo hi with
     | false=>rfl
     | true=>rw [e] at k2;exact absurd k2 dZ
    by_cases e1:x=lo
    ·rw [e1];exact hl
    ·by_cases e2:x=hi
     ·rw [e2];exact hh
     ·apply Classical.byContradiction;intro hneg;have hq0:tz (ak p)≠[]:=by rw [aJ];exact fun k=>h0 (bs.1 k)
      obtain ⟨s,s1,s2,s3⟩:=tN hq0 (n:=(tz p).length+1) (by rw [aJ,ax];omega) k1 (b:=x) (by grind);have hx:evV (ak p) x≠0:=fun k=>hneg (by rw [bM p x,k];grind)
      have k5:=vW (lo:=lo) (hi:=hi) (by grind) _ (ak p) (by rw [aJ,ax];omega) hq0 k3 s x s1 (by grind) (by grind) (by grind) s2 (by grind) hx;rw [cU s3,kN h0] at k5;exact hneg (pr (by rw [←k5];decide))
theorem yY{q:List Rat}(h0:tz q≠[]){a:Rat}{n:Nat}(hn:(tz q).length≤n)(h:cu n q a<0){b:Rat}(hb:a<b):∃ s,a<s∧s<b∧evV q s<0:=by
 obtain ⟨k,g,hg,hga,he⟩:=AP a _ q (nXe _) h0;have hk:=lg k q g hg h0 he;rw [jD k n q g zo hg hga he] at h;have hgp:0 < -1*g a:=by
  rcases bp (g a) with ⟨h4,h5⟩|⟨h4,h5⟩|⟨h4,h5⟩
  ·grind
  ·rw [h5] at h;exact absurd h dZ
  ·rw [h5] at h;exact absurd h dZ
 obtain ⟨e,he0,h1⟩:=Ed (hg.smul (-1)) hgp;obtain ⟨c,hc,c1,c2⟩:=cx he0 (show 0<b-a by grind);have hmid:0<c / 2∧c / 2<c:=by
  have:=aA (a:=c) (b:=2) dZ;exact ⟨by grind,by grind⟩
 refine ⟨a+c / 2,by grind,by grind,?_⟩;rw [he];have h2:=h1 (a+c / 2) (by grind) (by grind);have h3:∀ k:Nat,0<(a+c / 2-a) ^ k:=fun k=>Rat.pow_pos (by grind)
 have h4:=Rat.mul_pos (h3 k) h2;have h5:(a+c / 2-a) ^ k*(-1*g (a+c / 2))=-((a+c / 2-a) ^ k*g (a+c / 2)):=by grind
 rw [h5] at h4;grind
end Go.Proofs.YtafgmcimcbhhjaaGreat.Sg
