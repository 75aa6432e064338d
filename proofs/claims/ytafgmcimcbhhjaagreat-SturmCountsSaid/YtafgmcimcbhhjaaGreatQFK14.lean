import Derived.Test.YtafgmcimcbhhjaaGreatQFK13
set_option linter.unusedVariables false
set_option maxHeartbeats 8000000
set_option maxRecDepth 8000
namespace Go.Proofs.YtafgmcimcbhhjaaGreat
open Go.RowKit Go.Front Go.Num Stab Sg
attribute [local go_sem] XW.cell XW.frozen
theorem Co{K:Nat}:∀ (fuel:Nat) (a b:List Rat) (X:Nat),RmI K a b X→∀ m ∈ chn fuel a b,∀ y ∈ m,Wz K y:=by
 intro fuel;induction fuel with
 | zero=>intro a b X _ m hm;simp [chn] at hm
 | succ fuel ih =>
  intro a b X h m hm;have hs:=h.small;by_cases ha:a=[]
  ·rw [show chn (fuel+1) a b=[] by simp [chn,ha]] at hm;simp at hm
  ·by_cases hb:b=[]
   ·subst hb;rw [dw ha] at hm;obtain rfl:m=a:=by simpa using hm
    exact fun y hy=>(h.2.2.1 y hy).mono zo
   ·rw [dY ha hb] at hm;rcases List.mem_cons.1 hm with rfl|hm
    ·exact fun y hy=>(h.2.2.1 y hy).mono zo
    ·obtain ⟨s,r,f,hf,hdv⟩:=vw (vA h.2.2.1 h.2.2.2.1 h.1 h.2.1 hb);obtain ⟨hN,X2,hI2⟩:=h.next hb hf hdv;rw [hN] at hI2;exact ih _ _ _ hI2 m hm
theorem tU{K S D:Nat}{p:List Rat}(hS:1≤S)(hD:0<D)(hf:FrL S D p)(hl:p.length≤1000)(h0:tz p≠[])(hK:KZ K S p.length):∀ m ∈ remsV p,∀ y ∈ m,Wz K y:=by
 obtain ⟨X,-,h⟩:=jG hS hD hf hl h0 hK;rw [kL] at h;exact Co _ _ _ X h
theorem zS:∀ (fuel:Nat) (a b:List Rat),tz a=a→tz b=b→∀ m ∈ chn fuel a b,tz m=m:=by
 intro fuel;induction fuel with
 | zero=>intro a b _ _ m hm;simp [chn] at hm
 | succ fuel ih =>
  intro a b h1 h2 m hm;by_cases ha:a=[]
  ·rw [show chn (fuel+1) a b=[] by simp [chn,ha]] at hm;simp at hm
  ·by_cases hb:b=[]
   ·subst hb;rw [dw ha] at hm;obtain rfl:m=a:=by simpa using hm
    exact h1
   ·rw [dY ha hb] at hm;rcases List.mem_cons.1 hm with rfl|hm
    ·exact h1
    ·exact ih _ _ h2 (aJ _) m hm
theorem vU{K S D T:Nat}{p:List Rat}{x:Rat}(hS:1≤S)(hD:0<D)(hf:FrL S D p)(hl:p.length≤100)(h0:tz p≠[])(hK:KZ K S p.length)(hK2:K≤30000000)(hx:Sz T x)(hT:T≤10000):Mz (iI p) x:=by
 have h1:=tU hS hD hf zo h0 hK;have h2:=jd p;have h3:=nb h0;have hK1:1≤K:=by have:=hK.small;omega
 rw [nM];refine ⟨by rw [nXl];omega,fun k hk=>?_⟩;rw [nXl] at hk;have hm:(remsV p).getD k [] ∈ remsV p:=by
  rw [nXd,List.getElem?_eq_getElem hk];exact List.getElem_mem _
 have e:((remsV p).map aX).getD k []=aX ((remsV p).getD k []):=by
  rw [nXd,nXd,nXv,List.getElem?_eq_getElem hk];rfl
 have ht:tz ((remsV p).getD k [])=(remsV p).getD k []:=zS _ _ _ (aJ _) (aJ _) _ hm;have hml:=h3 _ hm;obtain ⟨E,e1,e2,e3⟩:=mQ (h1 _ hm) ht hK1;rw [e];have hul:(aX ((remsV p).getD k [])).length≤100:=by rw [jw,ht];omega
 refine ⟨hul,(e3.sz hK1 e1 e2).mono zo,fun j hj=>(mH e3 hx hK1 e1 e2 j).mono ?_⟩;have h5:(aX ((remsV p).getD k [])).length*(T+1)≤100*10001:=nXx hul zo;omega
theorem mw(v:SH)(ms:List (List Rat))(s t:RH)(a b:Rat)(w:World)(hc:ChR w v ms)(hza:Mz ms a)(hzb:Mz ms b)(hs:aB w s a)(ht:aB w t b)(za:Sz 10000000 a)(zb:Sz 10000000 b) :
  ar 74 [v.v,s.v,t.v] w (fun _:Unit=>.int .i64 ((cT ms a:Int)-cT ms b)) (fun _ _=>True):=by
 obtain ⟨va,vn,vc⟩:=v;obtain ⟨sn,sa,sl,sc,sb,sm,sd⟩:=s;obtain ⟨tn,ta,tl,tc,tb,tm,td⟩:=t;have HX:=Hi (Ext.refl w);have HC:=Hi hc;have HS:=Hi hs;have HT:=Hi ht;have ZA:=Hi za;have ZB:=Hi zb;have HMA:=Hi hza;have HMB:=Hi hzb;have hl:=hza.ln;have v1:=iQ ms a;have v2:=iQ ms b;obtain ⟨x1,hx1⟩:∃ x1,x1=cT ms a:=⟨_,rfl⟩;obtain ⟨x2,hx2⟩:∃ x2,x2=cT ms b:=⟨_,rfl⟩;have HV1:=Hi hx1;have HV2:=Hi hx2;have HE:Hid ((cT ms a:Int)-cT ms b=(x1:Int)-(x2:Int)):=Hi (by rw [hx1,hx2]);rw [←hx1] at v1;rw [←hx2] at v2;clear hc hs ht za zb hx1 hx2 hza hzb;unfold ar;go_enter Tryz.func74,Tryz.ntmps74;simp only [SH.v]
 go_upto_region 1 with fail
 refine jZ ?_;intro w1 hE B4 B5 hz_w1 hr_w1;refine mV4 hE ?_ HX HC HS HT;clear HX HC HS HT;intro HX HC HS HT;have hs_w1:=hE.size;replace b_B4:=bX3 B4;replace b_B5:=bX3 B5;refine wpG 7 (fun opIx=>match opIx with
  | 2=>sU (.int .i64 (x1:Nat))
  | 5=>sU (.int .i64 (x2:Nat))
  | _=>.quiet) (fun _=>[]) fun w0 he0 hz0 hc0 hf0=>?_
 refine wps he0 (fun w1 hW hG=>?_) fun x20=>?_
 ·exact spc [SH.v ⟨va,vn,vc⟩,RH.v ⟨sn,sa,sl,sc,sb,sm,sd⟩] Tryz.func137 ((by rw [HV1.out];exact qt ⟨va,vn,vc⟩ ms ⟨sn,sa,sl,sc,sb,sm,sd⟩ a _ (HC.out.ext hW) HMA.out (HS.out.ext hW) ZA.out))
 refine qZ ?_;refine wps he0 (fun w1 hW hG=>?_) fun x21=>?_
 ·exact spc [SH.v ⟨va,vn,vc⟩,RH.v ⟨tn,ta,tl,tc,tb,tm,td⟩] Tryz.func137 ((by rw [HV2.out];exact qt ⟨va,vn,vc⟩ ms ⟨tn,ta,tl,tc,tb,tm,td⟩ b _ (HC.out.ext hW) HMB.out (HT.out.ext hW) ZB.out))
 refine qZ ?_;refine am ?_;intro w2 hI;have hE:=he0.out.trans hI.ext;clear hI he0 hz0 hc0 hf0;refine mV6 hE ?_ B4 B5 HX HS HC HT;clear B4 B5 HX HS HC HT;intro B4 B5 HX HS HC HT;have hs_w2:=hE.size;replace b_B4:=bX3 B4;replace b_B5:=bX3 B5;simp only [pD];go_wp2
 go_ret
 exact ⟨(),by rw [HE.out];rfl,HX.out,trivial⟩
theorem oo(pa:Option Addr)(P pc:Nat)(l:List Rat)(K:Nat)(w:World)(h:co w ⟨pa,P,pc⟩ l)(hP:P≤500)(h0:tz (tz l)≠[])(hk:FrK K (tz l))(hK:K≤3900000)(hK2:(P+1)*(K / 3)≤25000000)(hs:FrK K (sqfV (tz l))) :
  ar 73 [.slice pa P pc] w SH.v (fun x w'=>bB w' x (sqfV (tz l))):=by
 have LR:=Hi h;have HX:=Hi (Ext.refl w);have Hln:=Hi h.len;simp only at Hln;obtain ⟨p,hp⟩:∃ p,p=tz l:=⟨_,rfl⟩;rw [←hp] at h0 hk hs ⊢;have Hp:=Hi hp;have hlen:p.length≤P:=by rw [hp,←Hln.out];exact af l
 have htp:tz p=p:=by rw [hp,aC]
 obtain ⟨S,D,hS,hD,hD2,hf,hSK⟩:=hk;obtain ⟨U,E,hU,hEn,hE2,hfU,hUK⟩:=hs;have hp1:1≤p.length:=by
  have:=af p;have:=nYg.2 h0;omega
 have hS3:=KZ.small3 hp1 hSK;have hUs:=KZ.small hUK;have hz:=hf.sz hS hD hD2;have HSz:Hid (SzL S p):=Hi hz;have HQ:Hid (SzL 8000000 (bE p (aM p (derL p)))):=Hi ((ze h0 hz (hfU.sz hU hEn hE2)).mono zo);have HF:Hid (FrL (S+1) D p):=Hi (hf.mono zo);have HF1:Hid (FrL S D p):=Hi hf;have HDF:Hid (∀ x ∈ tz (derL p),Fr (S+1) D x):=Hi (eZ hf zo);have hD3:D<W32 ^ (S+1):=nXn hD2 (nXp aw zo);have HDl:Hid ((tz (derL p)).length+1≤P):=Hi (by have:=eM h0;omega);have hgl0:(aM p (derL p)).length≤P:=by have:=nC h0;omega
 have hql0:(bE p (aM p (derL p))).length≤P:=by have:=pw h0;omega
 have HG0:Hid (tz (aM p (derL p))≠[]):=Hi (iu h0);have HSK:Hid (GZ K (S+1) p (tz (derL p))):=Hi (uP hD hf zo h0 hSK);obtain ⟨m0,hm0⟩:∃ m0,p.length=m0+1:=⟨p.length-1,zo⟩;have HM0:=Hi hm0;clear h hf hfU hUK hSK hz h0 hp1 hp hm0;unfold ar;go_enter Tryz.func73,Tryz.ntmps73
 go_wp2_with fail
 refine cM (bH pa P pc l _ LR.out zo) fun x7 w7 hE G7=>?_
 replace HX:=hE.tr HX;have hs_w7:=hE.size;obtain ⟨qa,Q,qc⟩:=x7;have LP:Hid (LIn w7 ⟨qa,Q,qc⟩ p 0 w7.heap.size):=Hi (by rw [Hp.out];exact G7.out.can.lin);have hQ:Q=m0+1:=by have h1:=LP.out.len;have h2:=HM0.out;simp only at h1;omega
 subst hQ;have hQP:m0+1≤P:=by have:=HM0.out;omega
 have hz0:((m0:Int)+1 == 0)=false:=by rw [nXs];omega
 clear G7;simp only [SH.v]
 go_wp2_with fail
 refine cM (nG qa (m0+1) qc p _ LP.out.can zo (HSz.out.mono zo)) fun x15 w15 hE G15=>?_
 refine mV2 hE ?_ HX LP;clear HX LP;intro HX LP;have hs_w15:=hE.size;obtain ⟨da,dn,dc⟩:=x15;have HD3:Hid (LIn w15 ⟨da,dn,dc⟩ (tz (derL p)) 0 w15.heap.size):=Hi G15.out.can.lin;clear G15;have hdn:dn+1≤P:=by have h1:=HD3.out.len;have h2:=HDl.out;simp only at h1;omega
 simp only [SH.v]
 go_wp2_with fail
 refine cM (yp qa da (m0+1) qc dn dc p (tz (derL p)) (S+1) D D _ LP.out.can HD3.out.can zo zo zo hD hD3 hD hD3 HF.out HDF.out K HSK.out zo) fun x16 w16 hE G16=>?_
 refine mV3 hE ?_ HX LP HD3;clear HX LP HD3;intro HX LP HD3;have hs_w16:=hE.size;rw [hZ] at G16;obtain ⟨ga,gn,gc⟩:=x16;have HGL:=Hi G16.out.1.lin;obtain ⟨X,F,hFX,hX1,hF0,hF2,hXK⟩:=G16.out.2;have HFX:=Hi hFX;have hX3:=GcR.small hXK;clear G16 hFX hXK;have hgl:=HGL.out.len;simp only at hgl;have hgm:gn≤P:=zo;have Hgl:=Hi hgl;clear hgl;clear HD3;have hm1:P*(X+1)≤P*(K / 3):=nXg _ hX3;have hm2:(P+1)*(K / 3)=P*(K / 3)+K / 3:=nXy _ _;have hm3:(m0+1+1)*(X+1)≤(P+1)*(K / 3):=nXx zo hX3
 (try dsimp only)
 go_wp2_with fail
 refine cM (pU qa ga (m0+1) qc gn gc p (aM p (derL p)) S X D F _ LP.out.can HGL.out.can zo zo hS hX1 hD hD2 hF0 hF2 HF1.out HFX.out HG0.out zo) fun x17 w17 hE G17=>?_
 refine mV3 hE ?_ HX LP HGL;clear HX LP HGL;intro HX LP HGL;have hs_w17:=hE.size;obtain ⟨⟨ea,en,ec⟩,⟨ra,rn,rc⟩⟩:=x17;have HQL:=Hi G17.out.1.lin;clear G17;have hqn:=HQL.out.len;simp only at hqn;have hen:en≤P:=zo;clear hqn;simp only [QT] at *
 (try dsimp only)
 go_wp2_with fail
 refine cM (ks ea en ec (bE p (aM p (derL p))) 8000000 _ HQL.out.can zo zo HQ.out) fun x22 w22 hE G22=>?_
 refine mV4 hE ?_ HX LP HGL HQL;clear HX LP HGL HQL;intro HX LP HGL HQL;have hs_w22:=hE.size;go_wp2
 go_ret
 exact ⟨x22,rfl,HX.out,G22.out.can⟩
def Fn(A:Prop):Prop:=Unit→A
theorem jR(pa:Option Addr)(P pc:Nat)(l:List Rat)(K:Nat)(s t:RH)(a b:Rat)(T:Nat)(w:World)(h:co w ⟨pa,P,pc⟩ l)(hP:P≤49)(h0:tz l≠[])(hk:FrK K (tz l))(hK:K≤3900000)(hK2:(P+1)*(K / 3)≤25000000)(hsq:FrK K (sqfV (tz l)))
 (hs:aR w s a)(ht:aR w t b)(za:Sz T a)(zb:Sz T b)(hT3:T≤1000) :
  ar 23 [.slice pa P pc,IvV (s,t)] w (fun _:Unit=>.tuple #[.int .i64 (nQ (tz l) (loV a b) (hiV a b)),.int .i64 0]) (fun _ _=>True):=by
 obtain ⟨sn,sa,sl,sc,sb,sm,sd⟩:=s;obtain ⟨tn,ta,tl,tc,tb,tm,td⟩:=t;have HX:=Hi (Ext.refl w);have LP:=Hi h;have LPw:=Hi h;have HS:=Hi hs;have HT:=Hi ht;have hlen:=h.len;simp only at hlen;have HKp:=Hi hk;have HKs:=Hi hsq;have h00:tz (tz l)≠[]:=by rw [aC];exact h0
 have H0:=Hi h00;have hq0:=(iq h00).ne;have ZA:Hid (Sz T (loV a b)):=Hi (by rcases lC a b with e|e <;> rw [e] <;> assumption);have ZB:Hid (Sz T (hiV a b)):=Hi (by rcases lJ a b with e|e <;> rw [e] <;> assumption);obtain ⟨N,hN⟩:∃ N,N=(tz l).length:=⟨_,rfl⟩;have hN1:1≤N:=by rw [hN];exact nYg.2 h0
 have hN2:N≤49:=by rw [hN];have:=af l;omega
 have HN:=Hi hN;obtain ⟨q,hq⟩:∃ q,q=sqfV (tz l):=⟨_,rfl⟩;have hql:q.length≤49:=by rw [hq];have:=kK h00;have:=af l;omega
 rw [←hq] at hq0 hsq;obtain ⟨U,E,hU,hEn,hE2,hfU,hUK⟩:=hsq;have hUs:=KZ.small hUK;have HFU:=Hi hfU;have HUK:=Hi hUK;have HQ0:=Hi hq0;obtain ⟨lo,hlo⟩:∃ lo,lo=loV a b:=⟨_,rfl⟩;obtain ⟨hi,hhi⟩:∃ hi,hi=hiV a b:=⟨_,rfl⟩;rw [←hlo] at ZA;rw [←hhi] at ZB;have HMA:Hid (Mz (iI q) lo):=Hi (vU hU hEn hfU zo hq0 hUK zo ZA.out zo);have HMB:Hid (Mz (iI q) hi):=Hi (vU hU hEn hfU zo hq0 hUK zo ZB.out zo);have HSQ:Hid (SzL 40000000 q):=Hi ((hfU.sz hU hEn hE2).mono zo);have HEV:Hid (∀ k,k≤q.length→Sz 40000000 (evV (q.drop k) lo)):=Hi (fun k hk=>(mH hfU ZA.out hU hEn hE2 k).mono (by
  have:q.length*(T+1)≤49*1001:=nXx hql zo;omega))
 have v1:=iQ (iI q) lo;have v2:=iQ (iI q) hi;have hml:=HMA.out.ln;obtain ⟨r,hr⟩:∃ r:Int,r=(cT (iI q) lo:Int)-cT (iI q) hi:=⟨_,rfl⟩;have hr1:-1000≤r∧r≤1000:=zo;have HR:=Hi hr;have HCN:Hid (Fn (nQ (tz l) (loV a b) (hiV a b)=r+(if Sg.sg (evV q lo)=0 then 1 else 0))):=Hi (fun _=>by rw [hr,←hlo,←hhi,hq];rfl);have HQE:=Hi hq;have HLO:=Hi hlo;have HHI:=Hi hhi;clear h hs ht hk h0 h00 za zb hlo hhi hlen hN hq hq0 hfU hUK v1 v2 hml hr;unfold ar;go_enter Tryz.func23,Tryz.ntmps23
 go_upto_region 1 with fail
 refine nmA ?_;intro w1 hE B3 hz_w1 hr_w1;refine mV4 hE ?_ HX LP HS HT;clear HX LP HS HT;intro HX LP HS HT;have hs_w1:=hE.size;replace b_B3:=bX3 B3
 go_wp2_with fail
 refine cM (bY pa P pc l _ LP.out zo) fun x10 w10 hE _=>?_
 refine mV5 hE ?_ B3 HX LP HS HT;clear B3 HX LP HS HT;intro B3 HX LP HS HT;have hs_w10:=hE.size;replace b_B3:=bX3 B3;rw [←HN.out];have hg1:¬ (48:Int)<(N:Int)-1:=zo;have hg2:¬ (N:Int)-1<0:=zo
 go_wp2_with fail
 refine cM (eB ⟨sn,sa,sl,sc,sb,sm,sd⟩ ⟨tn,ta,tl,tc,tb,tm,td⟩ a b _ HS.out HT.out) fun x18 w18 hE G18=>?_
 refine mV5 hE ?_ B3 HX LP HS HT;clear B3 HX LP HS HT;intro B3 HX LP HS HT;have hs_w18:=hE.size;replace b_B3:=bX3 B3;obtain ⟨⟨ln,la,ll,lc,lb,lm,ld⟩,⟨hn,ha,hl,hc,hb,hm,hd⟩⟩:=x18;rw [←HLO.out,←HHI.out] at G18;have HL:=Hi G18.out.1;have HH:=Hi G18.out.2;clear G18 hg1 hg2;clear HS;clear HT;clear LP
 go_upto_region 7 with fail
 refine cz B3.out rfl ?_;intro w19 T;replace HX:=Hi (T.ext HX.out zo);replace B3:=Hi (T.bx);replace HL:=Hi (HL.out.keep T.keep);replace HH:=Hi (HH.out.keep T.keep);have hs_w19:=nle T.size;have hr_w19:=nle T.size.symm;clear T;replace b_B3:=bX3 B3
 go_wp2_with fail
 refine cM (oo pa P pc l K _ (LPw.out.ext HX.out) zo H0.out HKp.out hK hK2 HKs.out) fun x20 w20 hE G20=>?_
 refine mV4 hE ?_ HX B3 HL HH;clear HX B3 HL HH;intro HX B3 HL HH;have hs_w20:=hE.size;replace b_B3:=bX3 B3;obtain ⟨qa,qn,qc⟩:=x20;rw [←HQE.out] at G20;have LQ:=Hi G20.out.lin;have hqn:qn≤49:=by have h1:=G20.out.len;simp only at h1;omega
 have HQl:Hid (q.length=qn):=Hi G20.out.len;clear G20;simp only [SH.v]
 go_upto_region 8 with fail
 have HUK2:Hid (KZ K U qn):=Hi (by rw [←HQl.out];exact HUK.out);refine wpG 7 (fun opIx=>match opIx with
  | 1=>.spec (SH) (default) (SH.v) (fun x w'=>ChR w' x (iI q))
  | 6=>sU (.int .i64 r)
  | _=>.quiet) (fun|6=>[1]|_=>[]) fun w0 he0 hz0 hc0 hf0=>?_
 refine wps he0 (fun w1 hW hG=>?_) fun x30=>?_
 ·exact spc [.slice qa qn qc] Tryz.func75 (mK qa qn qc q U E K _ (LQ.out.can.ext hW) zo HQ0.out hU hEn hE2 HFU.out HUK2.out zo)
 refine qZ ?_;refine wps he0 (fun w1 hW hG=>?_) fun x31=>?_
 ·have g30:=gS (hG 1 dZ);exact spc [x30.v,RH.v ⟨ln,la,ll,lc,lb,lm,ld⟩,RH.v ⟨hn,ha,hl,hc,hb,hm,hd⟩] Tryz.func74 ((by rw [HR.out];exact mw x30 (iI q) ⟨ln,la,ll,lc,lb,lm,ld⟩ ⟨hn,ha,hl,hc,hb,hm,hd⟩ lo hi _ g30 HMA.out HMB.out (HL.out.ext hW) (HH.out.ext hW) (ZA.out.mono zo) (ZB.out.mono zo)))
 refine qZ ?_;refine am ?_;intro w21 hI;have hE:=he0.out.trans hI.ext;have G30:=gT (hI.facts 1);clear hI he0 hz0 hc0 hf0;refine mV5 hE ?_ HX B3 LQ HL HH;clear HX B3 LQ HL HH;intro HX B3 LQ HL HH;have hs_w21:=hE.size;replace b_B3:=bX3 B3;simp only [pD];clear G30
 go_wp2_with fail
 refine cM (jo qa qn qc q ⟨ln,la,ll,lc,lb,lm,ld⟩ lo _ LQ.out.can HL.out zo HSQ.out (ZA.out.mono zo) HEV.out) fun x31 w31 hE G31=>?_
 refine mV5 hE ?_ HX B3 LQ HL HH;clear HX B3 LQ HL HH;intro HX B3 LQ HL HH;have hs_w31:=hE.size;replace b_B3:=bX3 B3
 go_wp2_with fail
 refine cM (bR x31 (evV q lo) _ (G31.out.raw (HEV.out 0 (Nat.zero_le _)) dZ)) fun x32 w32 hE _=>?_
 refine mV6 hE ?_ G31 HX B3 LQ HL HH;clear G31 HX B3 LQ HL HH;intro G31 HX B3 LQ HL HH;have hs_w32:=hE.size;replace b_B3:=bX3 B3;rw [gN];obtain ⟨z,hz⟩:∃ z,z=Sg.sg (evV q lo):=⟨_,rfl⟩;have HCN2:Hid (Fn (nQ (tz l) (loV a b) (hiV a b)=r+(if z=0 then 1 else 0))):=Hi (fun _=>by rw [HCN.out (),hz]);have hzs:=jA (evV q lo);rw [←hz] at hzs ⊢;clear hz HCN;clear G31;by_cases h1:z=0
 case pos =>
  subst h1;have HE2:Hid (Fn (nQ (tz l) (loV a b) (hiV a b)=r+1)):=Hi (fun _=>by rw [HCN2.out (),if_pos rfl]);clear HCN2;go_wp2;exact nXa (v:=.tuple #[.int .i64 (nQ (tz l) (loV a b) (hiV a b)),.int .i64 0]) (by rw [HE2.out ()];simp [results,Tryz.results23,go_sem]) rfl ⟨(),rfl,HX.out,trivial⟩
 have hzb:(z == 0)=false:=by rw [nXs];exact h1
 have HE2:Hid (Fn (nQ (tz l) (loV a b) (hiV a b)=r)):=Hi (fun _=>by rw [HCN2.out (),if_neg h1];omega);clear HCN2;go_wp2;exact nXa (v:=.tuple #[.int .i64 (nQ (tz l) (loV a b) (hiV a b)),.int .i64 0]) (by rw [HE2.out ()];simp [results,Tryz.results23,go_sem]) rfl ⟨(),rfl,HX.out,trivial⟩
theorem pY(pa:Option Addr)(P pc:Nat)(l:List Rat)(v:Value)(s t:RH)(w:World)(h:co w ⟨pa,P,pc⟩ l)(hP:P≤1000000)(h0:tz l=[]) :
  ar 23 [.slice pa P pc,IvV (s,t)] w (fun _:Unit=>.tuple #[.int .i64 0,.int .i64 3]) (fun _ _=>True):=by
 have HX:=Hi (Ext.refl w);have LP:=Hi h;have H0:=Hi h0;obtain ⟨sn,sa,sl,sc,sb,sm,sd⟩:=s;obtain ⟨tn,ta,tl,tc,tb,tm,td⟩:=t;clear h h0;unfold ar;go_enter Tryz.func23,Tryz.ntmps23
 go_upto_region 1 with fail
 refine nmA ?_;intro w1 hE B3 hz_w1 hr_w1;refine mV2 hE ?_ HX LP;clear HX LP;intro HX LP;have hs_w1:=hE.size;replace b_B3:=bX3 B3
 go_wp2_with fail
 refine cM (bY pa P pc l _ LP.out zo) fun x10 w10 hE _=>?_
 refine mV3 hE ?_ B3 HX LP;clear B3 HX LP;intro B3 HX LP;have hs_w10:=hE.size;replace b_B3:=bX3 B3;rw [H0.out];simp only [List.length_nil];go_wp2;exact nXa (v:=.tuple #[.int .i64 0,.int .i64 3]) (by simp [results,Tryz.results23,go_sem]) rfl ⟨(),rfl,HX.out,trivial⟩
def pC(l:List Rat)(a b:Rat):Bool:=if tz l=[] then false else decide (nQ (tz l) (loV a b) (hiV a b)=0∧0<Sg.sg (evV l a))
theorem nh(pa:Option Addr)(P pc:Nat)(l:List Rat)(K:Nat)(s t:RH)(a b:Rat)(T:Nat)(w:World)(h:co w ⟨pa,P,pc⟩ l)(hP:P≤49)(hk:FrK K (tz l))(hK:K≤3900000)(hK2:(P+1)*(K / 3)≤25000000)(hsq:FrK K (sqfV (tz l)))
 (hs:aR w s a)(ht:aR w t b)(za:Sz T a)(zb:Sz T b)(hT3:T≤1000)(hz:SzL 40000000 l)(hE:∀ k,k≤l.length→Sz 40000000 (evV (l.drop k) a)) :
  ar 28 [.slice pa P pc,IvV (s,t)] w (fun _:Unit=>.tuple #[.bool (pC l a b),.int .i64 0]) (fun _ _=>True):=by
 obtain ⟨sn,sa,sl,sc,sb,sm,sd⟩:=s;obtain ⟨tn,ta,tl,tc,tb,tm,td⟩:=t;have HX:=Hi (Ext.refl w);have LP:=Hi h;have HS:=Hi hs;have HT:=Hi ht;have hlen:=h.len;simp only at hlen;have HKp:=Hi hk;have HKs:=Hi hsq;have ZA:=Hi za;have ZB:=Hi zb;have HZ:=Hi hz;have HEV:=Hi hE;obtain ⟨N,hN⟩:∃ N,N=(tz l).length:=⟨_,rfl⟩;have hN2:N≤49:=by rw [hN];have:=af l;omega
 have HN:=Hi hN;clear h hs ht hk hsq za zb hlen hN hz hE;unfold ar;go_enter Tryz.func28,Tryz.ntmps28
 go_upto_region 1 with fail
 refine nmA ?_;intro w1 hE B3 hz_w1 hr_w1;refine mV4 hE ?_ HX LP HS HT;clear HX LP HS HT;intro HX LP HS HT;have hs_w1:=hE.size;replace b_B3:=bX3 B3
 go_wp2_with fail
 refine cM (bY pa P pc l _ LP.out zo) fun x9 w9 hE _=>?_
 refine mV5 hE ?_ B3 HX LP HS HT;clear B3 HX LP HS HT;intro B3 HX LP HS HT;have hs_w9:=hE.size;replace b_B3:=bX3 B3;rw [←HN.out];have hg1:¬ (48:Int)<(N:Int)-1:=zo;by_cases h0:tz l=[]
 case pos =>
  have H0:=Hi h0;have HV:Hid (Fn (pC l a b=false)):=Hi (fun _=>by unfold pC;rw [if_pos H0.out]);clear h0
  go_wp2_with fail
  refine cM (pY pa P pc l (.int .i64 0) ⟨sn,sa,sl,sc,sb,sm,sd⟩ ⟨tn,ta,tl,tc,tb,tm,td⟩ _ LP.out zo H0.out) fun x14 w14 hE _=>?_
  refine mV5 hE ?_ B3 HX LP HS HT;clear B3 HX LP HS HT;intro B3 HX LP HS HT;have hs_w14:=hE.size;replace b_B3:=bX3 B3;go_wp2;exact nXa (v:=.tuple #[.bool (pC l a b),.int .i64 0]) (by rw [HV.out ()];simp [results,Tryz.results28,go_sem]) rfl ⟨(),rfl,HX.out,trivial⟩
 have H0:=Hi h0;clear h0
 go_wp2_with fail
 refine cM (jR pa P pc l K ⟨sn,sa,sl,sc,sb,sm,sd⟩ ⟨tn,ta,tl,tc,tb,tm,td⟩ a b T _ LP.out hP H0.out HKp.out hK hK2 HKs.out HS.out HT.out ZA.out ZB.out hT3) fun x14 w14 hE _=>?_
 refine mV5 hE ?_ B3 HX LP HS HT;clear B3 HX LP HS HT;intro B3 HX LP HS HT;have hs_w14:=hE.size;replace b_B3:=bX3 B3;obtain ⟨n,hn⟩:∃ n,n=nQ (tz l) (loV a b) (hiV a b):=⟨_,rfl⟩;have HNN:=Hi hn;rw [←hn];clear hn;by_cases h1:n=0
 case neg =>
  have hb1:(n == 0)=false:=by rw [nXs];exact h1
  have HV:Hid (Fn (pC l a b=false)):=Hi (fun _=>by unfold pC;rw [if_neg H0.out,←HNN.out];exact decide_eq_false (fun h=>h1 h.1));go_wp2;exact nXa (v:=.tuple #[.bool (pC l a b),.int .i64 0]) (by rw [HV.out ()];simp [results,Tryz.results28,go_sem]) rfl ⟨(),rfl,HX.out,trivial⟩
 subst h1
 go_wp2_with fail
 refine cM (fx pa P pc l ⟨sn,sa,sl,sc,sb,sm,sd⟩ a _ LP.out HS.out zo HZ.out (ZA.out.mono zo) HEV.out) fun x27 w27 hE G27=>?_
 refine mV5 hE ?_ B3 HX LP HS HT;clear B3 HX LP HS HT;intro B3 HX LP HS HT;have hs_w27:=hE.size;replace b_B3:=bX3 B3
 go_wp2_with fail
 refine cM (bR x27 (evV l a) _ (G27.out.raw (HEV.out 0 (Nat.zero_le _)) dZ)) fun x28 w28 hE _=>?_
 refine mV6 hE ?_ G27 B3 HX LP HS HT;clear G27 B3 HX LP HS HT;intro G27 B3 HX LP HS HT;have hs_w28:=hE.size;replace b_B3:=bX3 B3;rw [gN];have hzs:=jA (evV l a);obtain ⟨z,hz⟩:∃ z,z=Sg.sg (evV l a):=⟨_,rfl⟩;have HV:Hid (Fn (pC l a b=decide (0<z))):=Hi (fun _=>by
  unfold pC;rw [if_neg H0.out,←HNN.out,hz];by_cases h:0<Sg.sg (evV l a)
  ·rw [decide_eq_true h];exact decide_eq_true ⟨rfl,h⟩
  ·rw [decide_eq_false h];exact decide_eq_false (fun k=>h k.2))
 rw [←hz] at hzs ⊢;clear hz;go_wp2;exact nXa (v:=.tuple #[.bool (pC l a b),.int .i64 0]) (by rw [HV.out ()];simp [results,Tryz.results28,go_sem]) rfl ⟨(),rfl,HX.out,trivial⟩
end Go.Proofs.YtafgmcimcbhhjaaGreat
/- How near two roots can be: on a short interval the changes of sign in a chain fall by one at most. Plain facts. -/
namespace Go.Proofs.YtafgmcimcbhhjaaGreat.Sg
open Go.RowKit Go.Front Go.Num Go.Stab Go.Proofs.YtafgmcimcbhhjaaGreat
theorem sQ{z:Rat}(hz:z=1∨z=-1){f:Rat→Rat}{s t:Rat}(h:z*f s<z*f t):cK f s t=if z*f s<0∧0≤z*f t then 1 else 0:=by
 unfold cK;rcases hz with rfl|rfl
 ·rcases bp (f s) with ⟨c,e⟩|⟨c,e⟩|⟨c,e⟩ <;> rcases bp (f t) with ⟨d,g⟩|⟨d,g⟩|⟨d,g⟩ <;> rw [e,g] <;> first
   | (exfalso;grind)
   | (rw [if_pos dZ,if_pos ⟨by grind,by grind⟩])
   | (rw [if_neg dZ,if_neg (fun k=>by have k1:=k.1;have k2:=k.2;grind)])
 ·rcases bp (f s) with ⟨c,e⟩|⟨c,e⟩|⟨c,e⟩ <;> rcases bp (f t) with ⟨d,g⟩|⟨d,g⟩|⟨d,g⟩ <;> rw [e,g] <;> first
   | (exfalso;grind)
   | (rw [if_pos dZ,if_pos ⟨by grind,by grind⟩])
   | (rw [if_neg dZ,if_neg (fun k=>by have k1:=k.1;have k2:=k.2;grind)])
theorem Fit.rise{A B:Rat}{f:Rat→Rat}{l:List (Rat→Rat)}(h:Fit A B f l){z:Rat}(hz:z=1∨z=-1){lo hi:Rat}(hA:A≤lo)(hlh:lo<hi)(hB:hi≤B)(hr:∀ s t,lo≤s→s<t→t≤hi→z*f s<z*f t):V f l lo=V f l hi+(if z*f lo<0∧0≤z*f hi then 1 else 0):=by
 obtain ⟨e,he,hc⟩:=h.cell;refine fM (A:=lo) (B:=hi) (P:=fun s t=>V f l s=V f l t+(if z*f s<0∧0≤z*f t then 1 else 0)) he (fun s t h1 h2 h3 h4=>?_) (fun s t u h1 h2 h3 h4 k1 k2=>?_) lo hi Rat.le_refl hlh Rat.le_refl
 ·rw [(hc s t (by grind) h2 (by grind) h4).1,sQ hz (hr s t h1 h2 h3)]
 ·have a1:=hr s t h1 h2 (by grind);have a2:=hr t u (by grind) h3 h4;rw [k1,k2,Nat.add_assoc]
  congr 1
  by_cases b1:z*f t<0
  ·rw [if_neg (c:=z*f s<0∧0≤z*f t) (fun k=>by have:=k.2;grind),Nat.add_zero];by_cases b2:0≤z*f u
   ·rw [if_pos ⟨b1,b2⟩,if_pos ⟨by grind,b2⟩]
   ·rw [if_neg (fun k=>b2 k.2),if_neg (fun k=>b2 k.2)]
  ·rw [if_neg (c:=z*f t<0∧0≤z*f u) (fun k=>b1 k.1),Nat.zero_add];by_cases b2:z*f s<0
   ·rw [if_pos ⟨b2,by grind⟩,if_pos ⟨b2,by grind⟩]
   ·rw [if_neg (fun k=>b2 k.1),if_neg (fun k=>b2 k.1)]
theorem Fit.short{A B L b d:Rat}{f g:Rat→Rat}{l:List (Rat→Rat)}(h:Fit A B f l)(hL0:0≤L)(hL:Lip A B L f)(hG:Lip A B L g)(hS:∀ s t,A≤s→s≤t→t≤B→Bd (L*(t-s)*(t-s)) (f t-f s-g s*(t-s)))(hb:0<b)
 (hbig:∀ x,A≤x→x≤B→Big b (f x)∨Big b (g x))(hd:L*d<b){lo hi:Rat}(hA:A≤lo)(hlh:lo<hi)(hB:hi≤B)(hw:hi-lo≤d):V f l lo≤V f l hi+1∧(f lo=0→V f l lo=V f l hi):=by
 have hLd:∀ y,y≤d→L*y<b:=fun y hy=>by have:=aZ hy hL0;grind
 rcases hbig lo hA (by grind) with h1|h1
 ·have hs:∀ x,lo≤x→x≤hi→sg (f x)=sg (f lo)∧sg (f lo)≠0:=fun x k1 k2=>Big.sign hL h1 hA k1 (by grind) (hLd _ (by grind))
  have hV:=h.calm hA hlh hB (fun s t k1 k2 k3 _=>by rw [(hs s k1 (by grind)).1,(hs t (by grind) k3).1]);refine ⟨zo,fun _=>hV⟩
 ·obtain ⟨z,hz,hzg⟩:∃ z:Rat,(z=1∨z=-1)∧b≤z*g lo:=by
   rcases h1 with k|k
   ·exact ⟨1,Or.inl rfl,by grind⟩
   ·exact ⟨-1,Or.inr rfl,by grind⟩
  have hr:∀ s t,lo≤s→s<t→t≤hi→z*f s<z*f t:=fun s t k1 k2 k3=>by
   obtain ⟨a1,a2⟩:=hG lo s hA k1 (by grind);obtain ⟨a3,a4⟩:=hS s t (by grind) (by grind) (by grind);have a5:=hLd (t-lo) (by grind);have a6:0<z*g s-L*(t-s):=by rcases hz with rfl|rfl <;> grind
   have a7:=xN a6 (show 0<t-s by grind);rcases hz with rfl|rfl <;> grind
  have hV:=h.rise hz hA hlh hB hr;refine ⟨?_,fun h0=>?_⟩
  ·rw [hV];split <;> omega
  ·rw [hV,if_neg (fun k=>by have:=k.1;rw [h0] at this;grind)];rfl
theorem pw1{a:Rat}(ha:1≤a)(k:Nat):1≤a ^ k:=by
 induction k with
 | zero=>rw [Rat.pow_zero];exact Rat.le_refl
 | succ k ih =>
  rw [Rat.pow_succ];have h6:=cJ ih (show 0≤a by grind);grind
theorem t7{a:Rat}(ha:1≤a){k m:Nat}(h:k≤m):a ^ k≤a ^ m:=by
 obtain ⟨j,rfl⟩:∃ j,m=k+j:=⟨m-k,zo⟩;clear h;induction j with
 | zero=>exact Rat.le_refl
 | succ j ih =>
  rw [←Nat.add_assoc,Rat.pow_succ];have h1:=pw1 ha (k+j);have h2:=aZ ha (show 0≤a ^ (k+j) by grind);grind
theorem ue{C R:Rat}(hC:0≤C)(hR:1≤R):∀ p:List Rat,(∀ y ∈ p,Bd C y) →
  On (-R) R (C*(4*R) ^ p.length) (evV p)∧On (-R) R (C*(4*R) ^ p.length) (evD p)∧Lip (-R) R (C*(4*R) ^ p.length) (evV p)∧Lip (-R) R (C*(4*R) ^ p.length) (evD p) ∧
  ∀ s t,-R≤s→s≤t→t≤R→Bd (C*(4*R) ^ p.length*(t-s)*(t-s)) (evV p t-evV p s-evD p s*(t-s)):=by
 intro p;induction p with
 | nil =>
  intro _;rw [List.length_nil,Rat.pow_zero,Rat.mul_one];refine ⟨fun x _ _=>⟨by show -C≤(0:Rat);grind,hC⟩,fun x _ _=>⟨by show -C≤(0:Rat);grind,hC⟩,fun s t _ h _=>?_,fun s t _ h _=>?_,fun s t _ h _=>?_⟩
  ·have:=nq hC (show 0≤t-s by grind);exact ⟨by show -(C*(t-s))≤(0:Rat)-0;grind,by show (0:Rat)-0≤C*(t-s);grind⟩
  ·have:=nq hC (show 0≤t-s by grind);exact ⟨by show -(C*(t-s))≤(0:Rat)-0;grind,by show (0:Rat)-0≤C*(t-s);grind⟩
  ·have:=nq (nq hC (show 0≤t-s by grind)) (show 0≤t-s by grind);exact ⟨by show -(C*(t-s)*(t-s))≤(0:Rat)-0-0*(t-s);grind,by show (0:Rat)-0-0*(t-s)≤C*(t-s)*(t-s);grind⟩
 | cons c p ih =>
  intro hp;obtain ⟨i1,i2,i3,i4,i5⟩:=ih (fun y hy=>hp y (List.mem_cons_of_mem _ hy));have hc:=hp c List.mem_cons_self;rw [List.length_cons,Rat.pow_succ];have hP:=pw1 (show 1≤4*R by grind) p.length;generalize (4*R) ^ p.length=P at *
  have hCP:=aZ hP hC;have hQ0:0≤C*P:=nq hC (by grind);have hQR:=aZ hR hQ0;have hE:C*(P*(4*R))=4*(C*P*R):=by grind
  rw [hE];generalize C*P=Q at *
  have hx:∀ {x},-R≤x→x≤R→Bd R x:=fun h1 h2=>⟨h1,h2⟩
  refine ⟨fun x h1 h2=>?_,fun x h1 h2=>?_,fun s t h1 h2 h3=>?_,fun s t h1 h2 h3=>?_,fun s t h1 h2 h3=>?_⟩
  ·exact (((i1 x h1 h2).mul (hx h1 h2)).add hc).mono (by grind)
  ·exact (((i2 x h1 h2).mul (hx h1 h2)).add (i1 x h1 h2)).mono (by grind)
  ·have h0:0≤t-s:=by grind
   have a:=(i3 s t h1 h2 h3).mul (hx (show -R≤t by grind) h3);have b:=(i1 s h1 (by grind)).mul (Bd.self h0);have e:evV (c :: p) t-evV (c :: p) s=(evV p t-evV p s)*t+evV p s*(t-s):=by
    show evV p t*t+c-(evV p s*s+c)=_;grind
   rw [e];refine (a.add b).mono ?_;have k:=cJ (show Q*R+Q≤4*(Q*R) by grind) h0;grind
  ·have h0:0≤t-s:=by grind
   have a:=(i4 s t h1 h2 h3).mul (hx (show -R≤t by grind) h3);have b:=(i2 s h1 (by grind)).mul (Bd.self h0);have e:evD (c :: p) t-evD (c :: p) s=(evD p t-evD p s)*t+evD p s*(t-s)+(evV p t-evV p s):=by
    show evD p t*t+evV p t-(evD p s*s+evV p s)=_;grind
   rw [e];refine ((a.add b).add (i3 s t h1 h2 h3)).mono ?_;have k:=cJ (show Q*R+Q+Q≤4*(Q*R) by grind) h0;grind
  ·have h0:0≤t-s:=by grind
   have a:=(i5 s t h1 h2 h3).mul (hx (show -R≤t by grind) h3);have b:=((i2 s h1 (by grind)).mul (Bd.self h0)).mul (Bd.self h0);have e:evV (c :: p) t-evV (c :: p) s-evD (c :: p) s*(t-s)=(evV p t-evV p s-evD p s*(t-s))*t+evD p s*(t-s)*(t-s):=by
    show evV p t*t+c-(evV p s*s+c)-(evD p s*s+evV p s)*(t-s)=_;grind
   rw [e];refine (a.add b).mono ?_;have k:=cJ (cJ (show Q*R+Q≤4*(Q*R) by grind) h0) h0;grind
theorem BP{S:Nat}{y:Rat}(h:Wz S y):Bd ((W32 ^ S:Nat):Rat) y:=by
 have e:=h.1.eq;have h2:=h.2;have h3:y.num≤((W32 ^ S:Nat):Int):=zo;have h4:-((W32 ^ S:Nat):Int)≤y.num:=zo;have k3:=Rat.intCast_le_intCast.2 h3;have k4:=Rat.intCast_le_intCast.2 h4;rw [Rat.intCast_neg,Rat.intCast_natCast] at k4;rw [Rat.intCast_natCast] at k3;rw [←e] at k3 k4;exact ⟨k4,k3⟩
theorem BN{S:Nat}{y:Rat}(h:Wz S y)(h0:y≠0):Big 1 y:=by
 have e:=h.1.eq;have hn:y.num≠0:=fun k=>h0 (by rw [e,k];rfl)
 rcases Int.lt_or_gt_of_ne hn with k|k
 ·right
  have:=Rat.intCast_le_intCast.2 (show y.num≤-1 by omega);rw [←e] at this;exact this
 ·left
  have:=Rat.intCast_le_intCast.2 (show 1≤y.num by omega);rw [←e] at this;exact this
def yX(S n T:Nat):Nat:=S+(S+2)*(2*n)+2*(n*(T+1))+1
theorem BM{S:Nat}{p:List Rat}(h:∀ y ∈ p,Wz S y)(hl:p.length<W32):∀ y ∈ derL p,Wz (S+1) y:=fun y hy=>by
 have h1:∀ i,Wz S (seq p i):=fun i=>by
  show Wz S (p.getD i 0);rw [nXd];cases k:p[i]? with
  | none=>exact Wz.zero S
  | some z=>exact h z (List.mem_of_getElem? k)
 obtain ⟨i,hi,e⟩:=List.mem_iff_getElem.1 hy;have e2:y=seq (derL p) i:=by
  show y=(derL p).getD i 0;rw [nXd,List.getElem?_eq_getElem hi];exact e.symm
 rw [e2,seq_derL];by_cases hip:i+1<p.length
 ·have hz:Wz 1 ((i+1:Nat):Rat):=by
   have:=Wz.int (S:=1) (z:=((i+1:Nat):Int)) (by rw [nYh,Nat.pow_one];omega)
   rwa [Rat.intCast_natCast] at this
  rw [nYi S 1];exact hz.mul (h1 (i+1))
 ·rw [show seq p (i+1)=0 by show p.getD (i+1) 0=0;rw [nXd,List.getElem?_eq_none zo];rfl,nYb];exact Wz.zero _
theorem Am{q:List Rat}(hc:Cp (evV q) (evD q)):Cp (evV (ak q)) (evD (ak q)):=by
 obtain ⟨u,v,hu,hv,h⟩:=hc;have e1:∀ x,evV q x=aH q*evV (ak q) x:=bM q;have e2:∀ x,evD q x=aH q*evD (ak q) x:=fun x=>by
  rw [←bX,←bX,←bO];exact eL (c:=1) (fun i=>by rw [aQ,seq_derL,seq_derL,c9 q (i+1)];grind) x |>.trans (Rat.one_mul _)
 refine ⟨_,_,hu.smul (aH q),hv.smul (aH q),fun x=>?_⟩;have:=h x;rw [e1,e2] at this;show aH q*u x*_+aH q*v x*_=1;grind
theorem sep{q:List Rat}{S n T:Nat}(hq:tz q≠[])(hc:Cp (evV q) (evD q))(hw:∀ y ∈ ak q,Wz S y)(hn:(ak q).length≤n)(hn1:n≤1000){lo hi:Rat}(h1:-((W32 ^ T:Nat):Rat)≤lo)(h2:lo<hi)(h3:hi≤((W32 ^ T:Nat):Rat))(hd:(hi-lo)*((W32 ^ yX S n T:Nat):Rat)≤1) :
  cT (iI q) lo≤cT (iI q) hi+1∧(evV q lo=0→cT (iI q) lo=cT (iI q) hi):=by
 obtain ⟨l,e,hfit⟩:=A2 hq hc;rw [eN,eN,jW e,jW e];have hcp:=Am hc;have hz0:evV q lo=0→evV (ak q) lo=0:=fun h=>by
  have k:=bM q lo;rw [h] at k;have:=aW hq;rcases nXr.1 k.symm with k|k
  ·rw [k] at this;exact absurd this Rat.lt_irrefl
  ·exact k
 obtain ⟨a,ha⟩:∃ a,a=ak q:=⟨_,rfl⟩;have hat:tz a≠[]:=by rw [ha,aJ];exact fun h=>hq (bs.1 h)
 rw [←ha] at hw hn hcp hz0 ⊢;have hF:=hfit (-((W32 ^ T:Nat):Rat)) ((W32 ^ T:Nat):Rat);rw [←ha] at hF;clear hfit
 suffices h:V (evV a) (l.map evV) lo≤V (evV a) (l.map evV) hi+1∧(evV a lo=0→V (evV a) (l.map evV) lo=V (evV a) (l.map evV) hi) from ⟨h.1,fun k=>h.2 (hz0 k)⟩
 have hR:(1:Rat)≤((W32 ^ T:Nat):Rat):=by exact_mod_cast nYm aw
 have hC:(0:Rat)≤((W32 ^ S:Nat):Rat):=by exact_mod_cast Nat.zero_le _
 have hlna:ln a≤n:=by have:=af a;show (tz a).length≤n;omega
 have hlna1:=dS hat;by_cases hl1:ln a≤1
 ·have hk:=eA hl1;have hne:seq a 0≠0:=fun h0=>hat (av.2 fun x=>by rw [hk,h0])
  have hV:=hF.calm h1 h2 h3 (fun s t _ _ _ _=>by rw [hk,hk]);exact ⟨zo,fun _=>hV⟩
 have hdw:=BM hw (show a.length<W32 by have:W32=4294967296:=rfl;omega);have hl2:1<(tz a).length:=by show 1<ln a;omega
 obtain ⟨m,hm⟩:∃ m,(tz a).length=m+2:=⟨(tz a).length-2,zo⟩;have hdt:=rI hm;have hlb:ln (derL a)≤n:=by have h8:=eF a (m+1) hm;have h9:(tz a).length≤n:=hlna;show (tz (derL a)).length≤n;omega
 obtain ⟨U,W,w,hw0,hU,hWl,hev,hUz,hWz,hwz⟩:=Dg (a:=a) (b:=derL a) (S:=S+1) (fun y hy=>(hw y hy).mono zo) hdw zo (dS hdt) (by rw [show evV (derL a)=evD a from funext (bX a)];exact hcp) (by have:W32=4294967296:=rfl;omega);have hS2:(S+1+1)*(ln a+ln (derL a))≤(S+2)*(2*n):=nXg _ zo;have hbd:∀ p:List Rat,(∀ i,Wz ((S+1+1)*(ln a+ln (derL a))) (seq p i))→ln p≤n→∀ x,-((W32 ^ T:Nat):Rat)≤x→x≤((W32 ^ T:Nat):Rat)→Bd (((W32 ^ ((S+2)*(2*n)):Nat):Rat)*(4*((W32 ^ T:Nat):Rat)) ^ n) (evV p x):=fun p hp hl x k1 k2=>by
  have hC2:(0:Rat)≤((W32 ^ ((S+2)*(2*n)):Nat):Rat):=by exact_mod_cast Nat.zero_le _
  have:=(ue hC2 hR (tz p) (fun y hy=>by
   obtain ⟨i,hi,e⟩:=List.mem_iff_getElem.1 hy;have e2:y=seq p i:=by
    rw [←aT];show y=(tz p).getD i 0;rw [nXd,List.getElem?_eq_getElem hi];exact e.symm
   rw [e2];exact BP ((hp i).mono hS2))).1 x k1 k2
  rw [show evV (tz p) x=evV p x from (eL (c:=1) (fun i=>by rw [aT,Rat.one_mul]) x).trans (Rat.one_mul _)] at this;exact this.mono (aZ (t7 (by grind) hl) hC2)
 have hUb:=hbd U hUz zo;have hWb:=hbd W hWz zo;obtain ⟨p1,-,p3,p4,p5⟩:=ue hC hR a (fun y hy=>BP (hw y hy));have hwb:=BN hwz hw0;obtain ⟨M,hM⟩:∃ M,M=((W32 ^ ((S+2)*(2*n)):Nat):Rat)*(4*((W32 ^ T:Nat):Rat)) ^ n:=⟨_,rfl⟩;obtain ⟨L,hL⟩:∃ L,L=((W32 ^ S:Nat):Rat)*(4*((W32 ^ T:Nat):Rat)) ^ n:=⟨_,rfl⟩;rw [←hM] at hUb hWb;have hpm:(4*((W32 ^ T:Nat):Rat)) ^ a.length≤(4*((W32 ^ T:Nat):Rat)) ^ n:=t7 (by grind) hn;have hlL:((W32 ^ S:Nat):Rat)*(4*((W32 ^ T:Nat):Rat)) ^ a.length≤L:=by rw [hL];exact aZ hpm hC
 have hM1:1≤M:=by
  rw [hM];have h8:(1:Rat)≤((W32 ^ ((S+2)*(2*n)):Nat):Rat):=by exact_mod_cast nYm aw
  have h9:=aZ (pw1 (show 1≤4*((W32 ^ T:Nat):Rat) by grind) n) (show 0≤((W32 ^ ((S+2)*(2*n)):Nat):Rat) by grind);grind
 have hL1:1≤L:=by
  rw [hL];have h8:(1:Rat)≤((W32 ^ S:Nat):Rat):=by exact_mod_cast nYm aw
  have h9:=aZ (pw1 (show 1≤4*((W32 ^ T:Nat):Rat) by grind) n) (show 0≤((W32 ^ S:Nat):Rat) by grind);grind
 -- 16 M L is at most W32 ^ sepY
 have hML:16*(M*L)≤((W32 ^ yX S n T:Nat):Rat):=by
  have e4:(4:Rat)*((W32 ^ T:Nat):Rat)≤((W32 ^ (T+1):Nat):Rat):=by
   rw [nXt,Rat.natCast_mul];have:(4:Rat)≤((W32:Nat):Rat):=by decide +kernel
   have:=aZ this (show 0≤((W32 ^ T:Nat):Rat) by grind);grind
  have e5:(4*((W32 ^ T:Nat):Rat)) ^ n≤((W32 ^ (n*(T+1)):Nat):Rat):=by
   rw [nYe,Nat.pow_mul];clear hpm hlL hM hL hn hlna hlb hU hWl hS2 hbd hd hUb hWb hUz hWz hwz hev;have h0:0≤4*((W32 ^ T:Nat):Rat):=by grind
   induction n with
   | zero=>rw [Rat.pow_zero,Nat.pow_zero];exact Rat.le_refl
   | succ n ih =>
    rw [Rat.pow_succ,nXt,Rat.natCast_mul];have h6:=ih zo;have h7:=cJ h6 h0;have h8:=aZ e4 (show (0:Rat)≤(((W32 ^ (T+1)) ^ n:Nat):Rat) by exact_mod_cast Nat.zero_le _);grind
  have e6:(16:Rat)≤((W32 ^ 1:Nat):Rat):=by decide +kernel
  have e7:((W32 ^ yX S n T:Nat):Rat)=((W32 ^ S:Nat):Rat)*((W32 ^ ((S+2)*(2*n)):Nat):Rat)*(((W32 ^ (n*(T+1)):Nat):Rat)*((W32 ^ (n*(T+1)):Nat):Rat))*((W32 ^ 1:Nat):Rat):=by
   unfold yX;rw [Nat.pow_add,Nat.pow_add,Nat.pow_add,show 2*(n*(T+1))=n*(T+1)+n*(T+1) by omega,Nat.pow_add,Rat.natCast_mul,Rat.natCast_mul,Rat.natCast_mul,Rat.natCast_mul]
  have hp0:(0:Rat)≤(4*((W32 ^ T:Nat):Rat)) ^ n:=by have:=pw1 (show 1≤4*((W32 ^ T:Nat):Rat) by grind) n;grind
  have hC2:(0:Rat)≤((W32 ^ ((S+2)*(2*n)):Nat):Rat):=by exact_mod_cast Nat.zero_le _
  rw [hM,hL,e7];generalize (4*((W32 ^ T:Nat):Rat)) ^ n=P at *
  generalize ((W32 ^ ((S+2)*(2*n)):Nat):Rat)=C2 at *
  generalize ((W32 ^ (n*(T+1)):Nat):Rat)=Z at *
  generalize ((W32 ^ 1:Nat):Rat)=w1 at *
  generalize ((W32 ^ S:Nat):Rat)=C at *
  have g1:P*P≤Z*Z:=by have a1:=cJ e5 hp0;have a2:=aZ e5 (show 0≤Z by grind);grind
  have g2:=aZ g1 (nq hC hC2);have g3:=aZ e6 (nq (nq hC hC2) (nq (show 0≤Z by grind) (show 0≤Z by grind)));grind
 have hMp:0<M:=by grind
 have hb:0<1 / (4*M):=vI dZ (by grind);have hbe:=aA (a:=1) (b:=4*M) (by grind);have hD0:(0:Rat)<((W32 ^ yX S n T:Nat):Rat):=by exact_mod_cast nYm aw
 refine hF.short (L:=L) (b:=1 / (4*M)) (d:=hi-lo) (g:=evD a) (by grind) (p3.mono hlL) (p4.mono hlL) (fun s t k1 k2 k3=>(p5 s t k1 k2 k3).mono (cJ (cJ hlL (by grind)) (by grind))) hb (fun x k1 k2=>Classical.byContradiction fun hn=>?_) ?_ h1 h2 h3 Rat.le_refl
 ·obtain ⟨n1,n2⟩:¬ Big (1 / (4*M)) (evV a x)∧¬ Big (1 / (4*M)) (evD a x):=⟨fun h=>hn (Or.inl h),fun h=>hn (Or.inr h)⟩;obtain ⟨q1,q2⟩:=jL n1;obtain ⟨q3,q4⟩:=jL n2;generalize 1 / (4*M)=b at *
  obtain ⟨r1,r2⟩:=(hUb x k1 k2).mul (show Bd b (evV a x) from ⟨by grind,by grind⟩);obtain ⟨r3,r4⟩:=(hWb x k1 k2).mul (show Bd b (evD a x) from ⟨by grind,by grind⟩);have k:=hev x;rw [bX] at k;rcases hwb with h|h <;> grind
 ·have h8:=cJ hML (show 0≤hi-lo by grind);generalize 1 / (4*M)=b at *
  generalize hi-lo=d at *
  have h9:16*(M*L)*d≤1:=by grind
  refine Classical.byContradiction fun hn=>?_
  have h10:=aZ (show b≤L*d by grind) (show 0≤4*M by grind);grind
end Go.Proofs.YtafgmcimcbhhjaaGreat.Sg
