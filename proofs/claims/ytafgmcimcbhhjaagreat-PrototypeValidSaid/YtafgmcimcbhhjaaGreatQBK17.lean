import Derived.Test.YtafgmcimcbhhjaaGreatQBK16
set_option linter.unusedVariables false
set_option maxHeartbeats 8000000
set_option maxRecDepth 8000
namespace Go.Proofs.YtafgmcimcbhhjaaGreat
open Go.RowKit Go.Front Go.Num Stab Sg
attribute [local go_sem] XW.cell XW.frozen
theorem EH{K:Nat}:∀ (fuel:Nat) (a b:List Rat) (X:Nat),RmI K a b X→∀ m ∈ chn fuel a b,∀ y ∈ m,Wz K y:=by
 intro fuel;induction fuel with
 | zero=>intro a b X _ m hm;simp [chn] at hm
 | succ fuel ih =>
  intro a b X h m hm;have hs:=h.small;by_cases ha:a=[]
  ·rw [show chn (fuel+1) a b=[] by simp [chn,ha]] at hm;simp at hm
  ·by_cases hb:b=[]
   ·subst hb;rw [dY ha] at hm;obtain rfl:m=a:=by simpa using hm
    exact fun y hy=>(h.2.2.1 y hy).mono zo
   ·rw [eI ha hb] at hm;rcases List.mem_cons.1 hm with rfl|hm
    ·exact fun y hy=>(h.2.2.1 y hy).mono zo
    ·obtain ⟨s,r,f,hf,hdv⟩:=xG (xH h.2.2.1 h.2.2.2.1 h.1 h.2.1 hb);obtain ⟨hN,X2,hI2⟩:=h.next hb hf hdv;rw [hN] at hI2;exact ih _ _ _ hI2 m hm
theorem vD{K S D:Nat}{p:List Rat}(hS:1≤S)(hD:0<D)(hf:FrL S D p)(hl:p.length≤1000)(h0:tz p≠[])(hK:KZ K S p.length):∀ m ∈ remsV p,∀ y ∈ m,Wz K y:=by
 obtain ⟨X,-,h⟩:=ko hS hD hf hl h0 hK;rw [nQ] at h;exact EH _ _ _ X h
theorem BI:∀ (fuel:Nat) (a b:List Rat),tz a=a→tz b=b→∀ m ∈ chn fuel a b,tz m=m:=by
 intro fuel;induction fuel with
 | zero=>intro a b _ _ m hm;simp [chn] at hm
 | succ fuel ih =>
  intro a b h1 h2 m hm;by_cases ha:a=[]
  ·rw [show chn (fuel+1) a b=[] by simp [chn,ha]] at hm;simp at hm
  ·by_cases hb:b=[]
   ·subst hb;rw [dY ha] at hm;obtain rfl:m=a:=by simpa using hm
    exact h1
   ·rw [eI ha hb] at hm;rcases List.mem_cons.1 hm with rfl|hm
    ·exact h1
    ·exact ih _ _ h2 (bj _) m hm
theorem yf{K S D T:Nat}{p:List Rat}{x:Rat}(hS:1≤S)(hD:0<D)(hf:FrL S D p)(hl:p.length≤100)(h0:tz p≠[])(hK:KZ K S p.length)(hK2:K≤30000000)(hx:Sz T x)(hT:T≤10000):Mz (jp p) x:=by
 have h1:=vD hS hD hf zo h0 hK;have h2:=jM p;have h3:=nY h0;have hK1:1≤K:=by have:=hK.small;omega
 rw [oR];refine ⟨by rw [nXl];omega,fun k hk=>?_⟩;rw [nXl] at hk;have hm:(remsV p).getD k [] ∈ remsV p:=by
  rw [nXd,List.getElem?_eq_getElem hk];exact List.getElem_mem _
 have e:((remsV p).map bg).getD k []=bg ((remsV p).getD k []):=by
  rw [nXd,nXd,nXw,List.getElem?_eq_getElem hk];rfl
 have ht:tz ((remsV p).getD k [])=(remsV p).getD k []:=BI _ _ _ (bj _) (bj _) _ hm;have hml:=h3 _ hm;obtain ⟨E,e1,e2,e3⟩:=nI (h1 _ hm) ht hK1;rw [e];have hul:(bg ((remsV p).getD k [])).length≤100:=by rw [kg,ht];omega
 refine ⟨hul,(e3.sz hK1 e1 e2).mono zo,fun j hj=>(nw e3 hx hK1 e1 e2 j).mono ?_⟩;have h5:(bg ((remsV p).getD k [])).length*(T+1)≤100*10001:=nXy hul zo;omega
theorem m9(v:SH)(ms:List (List Rat))(s t:RH)(a b:Rat)(w:World)(hc:ChR w v ms)(hza:Mz ms a)(hzb:Mz ms b)(hs:aA w s a)(ht:aA w t b)(za:Sz 10000000 a)(zb:Sz 10000000 b) :
  ak 74 [v.v,s.v,t.v] w (fun _:Unit=>.int .i64 ((d9 ms a:Int)-d9 ms b)) (fun _ _=>True):=by
 obtain ⟨va,vn,vc⟩:=v;obtain ⟨sn,sa,sl,sc,sb,sm,sd⟩:=s;obtain ⟨tn,ta,tl,tc,tb,tm,td⟩:=t;have HX:=Hi (Ext.refl w);have HC:=Hi hc;have HS:=Hi hs;have HT:=Hi ht;have ZA:=Hi za;have ZB:=Hi zb;have HMA:=Hi hza;have HMB:=Hi hzb;have hl:=hza.ln;have v1:=lk ms a;have v2:=lk ms b;obtain ⟨x1,hx1⟩:∃ x1,x1=d9 ms a:=⟨_,rfl⟩;obtain ⟨x2,hx2⟩:∃ x2,x2=d9 ms b:=⟨_,rfl⟩;have HV1:=Hi hx1;have HV2:=Hi hx2;have HE:Hid ((d9 ms a:Int)-d9 ms b=(x1:Int)-(x2:Int)):=Hi (by rw [hx1,hx2]);rw [←hx1] at v1;rw [←hx2] at v2;clear hc hs ht za zb hx1 hx2 hza hzb;unfold ak;go_enter Tryz.func74,Tryz.ntmps74;simp only [SH.v]
 go_upto_region 1 with fail
 refine kE ?_;intro w1 hE B4 B5 hz_w1 hr_w1;refine mV4 hE ?_ HX HC HS HT;clear HX HC HS HT;intro HX HC HS HT;replace b_B4:=bX3 B4;replace b_B5:=bX3 B5;refine wpG 7 (fun opIx=>match opIx with
  | 2=>sU (.int .i64 (x1:Nat))
  | 5=>sU (.int .i64 (x2:Nat))
  | _=>.quiet) (fun _=>[]) fun w0 he0 hz0 hc0 hf0=>?_
 refine wps he0 (fun w1 hW hG=>?_) fun x20=>?_
 ·exact spc [SH.v ⟨va,vn,vc⟩,RH.v ⟨sn,sa,sl,sc,sb,sm,sd⟩] Tryz.func137 ((by rw [HV1.out];exact r9 ⟨va,vn,vc⟩ ms ⟨sn,sa,sl,sc,sb,sm,sd⟩ a _ (HC.out.ext hW) HMA.out (HS.out.ext hW) ZA.out))
 refine qZ ?_;refine wps he0 (fun w1 hW hG=>?_) fun x21=>?_
 ·exact spc [SH.v ⟨va,vn,vc⟩,RH.v ⟨tn,ta,tl,tc,tb,tm,td⟩] Tryz.func137 ((by rw [HV2.out];exact r9 ⟨va,vn,vc⟩ ms ⟨tn,ta,tl,tc,tb,tm,td⟩ b _ (HC.out.ext hW) HMB.out (HT.out.ext hW) ZB.out))
 refine qZ ?_;refine aj ?_;intro w2 hI;have hE:=he0.out.trans hI.ext;clear hI he0 hz0 hc0 hf0;replace HX:=hE.tr HX;simp only [pD];go_wp2
 go_ret
 exact ⟨(),by rw [HE.out];rfl,HX.out,trivial⟩
theorem pu(pa:Option Addr)(P pc:Nat)(l:List Rat)(K:Nat)(w:World)(h:ct w ⟨pa,P,pc⟩ l)(hP:P≤500)(h0:tz (tz l)≠[])(hk:FrK K (tz l))(hK:K≤3900000)(hK2:(P+1)*(K / 3)≤25000000)(hs:FrK K (sqfV (tz l))) :
  ak 73 [.slice pa P pc] w SH.v (fun x w'=>aD w' x (sqfV (tz l))):=by
 have LR:=Hi h;have HX:=Hi (Ext.refl w);have Hln:=Hi h.len;simp only at Hln;obtain ⟨p,hp⟩:∃ p,p=tz l:=⟨_,rfl⟩;rw [←hp] at h0 hk hs ⊢;have Hp:=Hi hp;have hlen:p.length≤P:=by rw [hp,←Hln.out];exact ae l
 obtain ⟨S,D,hS,hD,hD2,hf,hSK⟩:=hk;obtain ⟨U,E,hU,hEn,hE2,hfU,hUK⟩:=hs;have hp1:1≤p.length:=by
  have:=ae p;have:=nYh.2 h0;omega
 have hS3:=KZ.small3 hp1 hSK;have hUs:=KZ.small hUK;have hz:=hf.sz hS hD hD2;have HSz:Hid (SzL S p):=Hi hz;have HQ:Hid (SzL 8000000 (bE p (cY p (derL p)))):=Hi ((Ba h0 hz (hfU.sz hU hEn hE2)).mono zo);have HF:Hid (FrL (S+1) D p):=Hi (hf.mono zo);have HF1:Hid (FrL S D p):=Hi hf;have HDF:Hid (∀ x ∈ tz (derL p),Fr (S+1) D x):=Hi (jo hf zo);have hD3:D<W32 ^ (S+1):=nXn hD2 (nXp aw zo);have HDl:Hid ((tz (derL p)).length+1≤P):=Hi (by have:=j1 h0;omega);have hgl0:(cY p (derL p)).length≤P:=by have:=wX h0;omega
 have hql0:(bE p (cY p (derL p))).length≤P:=by have:=qU h0;omega
 have HG0:Hid (tz (cY p (derL p))≠[]):=Hi (s7 h0);have HSK:Hid (GZ K (S+1) p (tz (derL p))):=Hi (CS hD hf zo h0 hSK);obtain ⟨m0,hm0⟩:∃ m0,p.length=m0+1:=⟨p.length-1,zo⟩;have HM0:=Hi hm0;clear h hf hfU hUK hSK hz h0 hp1 hp hm0;unfold ak;go_enter Tryz.func73,Tryz.ntmps73
 go_wp2_with fail
 refine cM (ce pa P pc l _ LR.out zo) fun x7 w7 hE G7=>?_
 replace HX:=hE.tr HX;obtain ⟨qa,Q,qc⟩:=x7;have LP:Hid (LIn w7 ⟨qa,Q,qc⟩ p 0 w7.heap.size):=Hi (by rw [Hp.out];exact G7.out.can.lin);have hQ:Q=m0+1:=by have h1:=LP.out.len;have h2:=HM0.out;simp only at h1;omega
 subst hQ;have hQP:m0+1≤P:=by have:=HM0.out;omega
 have hz0:((m0:Int)+1 == 0)=false:=by rw [nXs];omega
 clear G7;simp only [SH.v]
 go_wp2_with fail
 refine cM (oL qa (m0+1) qc p _ LP.out.can zo (HSz.out.mono zo)) fun x15 w15 hE G15=>?_
 refine mV2 hE ?_ HX LP;clear HX LP;intro HX LP;obtain ⟨da,dn,dc⟩:=x15;have HD3:Hid (LIn w15 ⟨da,dn,dc⟩ (tz (derL p)) 0 w15.heap.size):=Hi G15.out.can.lin;clear G15;have hdn:dn+1≤P:=by have h1:=HD3.out.len;have h2:=HDl.out;simp only at h1;omega
 simp only [SH.v]
 go_wp2_with fail
 refine cM (As qa da (m0+1) qc dn dc p (tz (derL p)) (S+1) D D _ LP.out.can HD3.out.can zo zo zo hD hD3 hD hD3 HF.out HDF.out K HSK.out zo) fun x16 w16 hE G16=>?_
 refine mV2 hE ?_ HX LP;clear HX LP;intro HX LP;rw [k8] at G16;obtain ⟨ga,gn,gc⟩:=x16;have HGL:=Hi G16.out.1.lin;obtain ⟨X,F,hFX,hX1,hF0,hF2,hXK⟩:=G16.out.2;have HFX:=Hi hFX;have hX3:=GcR.small hXK;clear G16 hFX hXK;have hgl:=HGL.out.len;simp only at hgl;have hgm:gn≤P:=zo;clear hgl;clear HD3;have hm2:(P+1)*(K / 3)=P*(K / 3)+K / 3:=nXz _ _;have hm3:(m0+1+1)*(X+1)≤(P+1)*(K / 3):=nXy zo hX3
 (try dsimp only)
 go_wp2_with fail
 refine cM (rJ qa ga (m0+1) qc gn gc p (cY p (derL p)) S X D F _ LP.out.can HGL.out.can zo zo hS hX1 hD hD2 hF0 hF2 HF1.out HFX.out HG0.out zo) fun x17 w17 hE G17=>?_
 replace HX:=hE.tr HX;obtain ⟨⟨ea,en,ec⟩,⟨ra,rn,rc⟩⟩:=x17;have HQL:=Hi G17.out.1.lin;clear G17;have hqn:=HQL.out.len;simp only at hqn;have hen:en≤P:=zo;clear hqn;simp only [QT] at *
 (try dsimp only)
 go_wp2_with fail
 refine cM (kT ea en ec (bE p (cY p (derL p))) 8000000 _ HQL.out.can zo zo HQ.out) fun x22 w22 hE G22=>?_
 replace HX:=hE.tr HX;go_wp2
 go_ret
 exact ⟨x22,rfl,HX.out,G22.out.can⟩
def Fn(A:Prop):Prop:=Unit→A
theorem nB(pa:Option Addr)(P pc:Nat)(l:List Rat)(K:Nat)(s t:RH)(a b:Rat)(T:Nat)(w:World)(h:ct w ⟨pa,P,pc⟩ l)(hP:P≤49)(h0:tz l≠[])(hk:FrK K (tz l))(hK:K≤3900000)(hK2:(P+1)*(K / 3)≤25000000)(hsq:FrK K (sqfV (tz l)))
 (hs:aP w s a)(ht:aP w t b)(za:Sz T a)(zb:Sz T b)(hT3:T≤1000) :
  ak 23 [.slice pa P pc,IvV (s,t)] w (fun _:Unit=>.tuple #[.int .i64 (qA (tz l) (loV a b) (hiV a b)),.int .i64 0]) (fun _ _=>True):=by
 obtain ⟨sn,sa,sl,sc,sb,sm,sd⟩:=s;obtain ⟨tn,ta,tl,tc,tb,tm,td⟩:=t;have HX:=Hi (Ext.refl w);have LP:=Hi h;have LPw:=Hi h;have HS:=Hi hs;have HT:=Hi ht;have hlen:=h.len;simp only at hlen;have HKp:=Hi hk;have HKs:=Hi hsq;have h00:tz (tz l)≠[]:=by rw [aI];exact h0
 have H0:=Hi h00;have hq0:=(kB h00).ne;have ZA:Hid (Sz T (loV a b)):=Hi (by rcases Ac a b with e|e <;> rw [e] <;> assumption);have ZB:Hid (Sz T (hiV a b)):=Hi (by rcases Ak a b with e|e <;> rw [e] <;> assumption);obtain ⟨N,hN⟩:∃ N,N=(tz l).length:=⟨_,rfl⟩;have hN1:1≤N:=by rw [hN];exact nYh.2 h0
 have hN2:N≤49:=by rw [hN];have:=ae l;omega
 have HN:=Hi hN;obtain ⟨q,hq⟩:∃ q,q=sqfV (tz l):=⟨_,rfl⟩;have hql:q.length≤49:=by rw [hq];have:=lG h00;have:=ae l;omega
 rw [←hq] at hq0 hsq;obtain ⟨U,E,hU,hEn,hE2,hfU,hUK⟩:=hsq;have hUs:=KZ.small hUK;have HFU:=Hi hfU;have HUK:=Hi hUK;have HQ0:=Hi hq0;obtain ⟨lo,hlo⟩:∃ lo,lo=loV a b:=⟨_,rfl⟩;obtain ⟨hi,hhi⟩:∃ hi,hi=hiV a b:=⟨_,rfl⟩;rw [←hlo] at ZA;rw [←hhi] at ZB;have HMA:Hid (Mz (jp q) lo):=Hi (yf hU hEn hfU zo hq0 hUK zo ZA.out zo);have HMB:Hid (Mz (jp q) hi):=Hi (yf hU hEn hfU zo hq0 hUK zo ZB.out zo);have HSQ:Hid (SzL 40000000 q):=Hi ((hfU.sz hU hEn hE2).mono zo);have HEV:Hid (∀ k,k≤q.length→Sz 40000000 (evV (q.drop k) lo)):=Hi (fun k hk=>(nw hfU ZA.out hU hEn hE2 k).mono (by
  have:q.length*(T+1)≤49*1001:=nXy hql zo;omega))
 have v1:=lk (jp q) lo;have v2:=lk (jp q) hi;have hml:=HMA.out.ln;obtain ⟨r,hr⟩:∃ r:Int,r=(d9 (jp q) lo:Int)-d9 (jp q) hi:=⟨_,rfl⟩;have hr1:-1000≤r∧r≤1000:=zo;have HR:=Hi hr;have HCN:Hid (Fn (qA (tz l) (loV a b) (hiV a b)=r+(if Sg.sg (evV q lo)=0 then 1 else 0))):=Hi (fun _=>by rw [hr,←hlo,←hhi,hq];rfl);have HQE:=Hi hq;have HLO:=Hi hlo;have HHI:=Hi hhi;clear h hs ht hk h0 h00 za zb hlo hhi hlen hN hq hq0 hfU hUK v1 v2 hml hr;unfold ak;go_enter Tryz.func23,Tryz.ntmps23
 go_upto_region 1 with fail
 refine nmA ?_;intro w1 hE B3 hz_w1 hr_w1;refine mV4 hE ?_ HX LP HS HT;clear HX LP HS HT;intro HX LP HS HT
 go_wp2_with fail
 refine cM (dw pa P pc l _ LP.out zo) fun x10 w10 hE _=>?_
 refine mV4 hE ?_ B3 HX HS HT;clear B3 HX HS HT;intro B3 HX HS HT;replace b_B3:=bX3 B3;rw [←HN.out]
 go_wp2_with fail
 refine cM (eV ⟨sn,sa,sl,sc,sb,sm,sd⟩ ⟨tn,ta,tl,tc,tb,tm,td⟩ a b _ HS.out HT.out) fun x18 w18 hE G18=>?_
 refine mV2 hE ?_ B3 HX;clear B3 HX;intro B3 HX;replace b_B3:=bX3 B3;obtain ⟨⟨ln,la,ll,lc,lb,lm,ld⟩,⟨hn,ha,hl,hc,hb,hm,hd⟩⟩:=x18;rw [←HLO.out,←HHI.out] at G18;have HL:=Hi G18.out.1;have HH:=Hi G18.out.2;clear G18;clear HS;clear HT;clear LP
 go_upto_region 7 with fail
 refine bh B3.out rfl ?_;intro w19 T;replace HX:=Hi (T.ext HX.out zo);replace B3:=Hi (T.bx);replace HL:=Hi (HL.out.keep T.keep);replace HH:=Hi (HH.out.keep T.keep);clear T
 go_wp2_with fail
 refine cM (pu pa P pc l K _ (LPw.out.ext HX.out) zo H0.out HKp.out hK hK2 HKs.out) fun x20 w20 hE G20=>?_
 refine mV4 hE ?_ HX B3 HL HH;clear HX B3 HL HH;intro HX B3 HL HH;replace b_B3:=bX3 B3;obtain ⟨qa,qn,qc⟩:=x20;rw [←HQE.out] at G20;have LQ:=Hi G20.out.lin;have hqn:qn≤49:=by have h1:=G20.out.len;simp only at h1;omega
 have HQl:Hid (q.length=qn):=Hi G20.out.len;clear G20;simp only [SH.v]
 go_upto_region 8 with fail
 have HUK2:Hid (KZ K U qn):=Hi (by rw [←HQl.out];exact HUK.out);refine wpG 7 (fun opIx=>match opIx with
  | 1=>.spec (SH) (default) (SH.v) (fun x w'=>ChR w' x (jp q))
  | 6=>sU (.int .i64 r)
  | _=>.quiet) (fun|6=>[1]|_=>[]) fun w0 he0 hz0 hc0 hf0=>?_
 refine wps he0 (fun w1 hW hG=>?_) fun x30=>?_
 ·exact spc [.slice qa qn qc] Tryz.func75 (nC qa qn qc q U E K _ (LQ.out.can.ext hW) zo HQ0.out hU hEn hE2 HFU.out HUK2.out zo)
 refine qZ ?_;refine wps he0 (fun w1 hW hG=>?_) fun x31=>?_
 ·have g30:=gS (hG 1 dZ);exact spc [x30.v,RH.v ⟨ln,la,ll,lc,lb,lm,ld⟩,RH.v ⟨hn,ha,hl,hc,hb,hm,hd⟩] Tryz.func74 ((by rw [HR.out];exact m9 x30 (jp q) ⟨ln,la,ll,lc,lb,lm,ld⟩ ⟨hn,ha,hl,hc,hb,hm,hd⟩ lo hi _ g30 HMA.out HMB.out (HL.out.ext hW) (HH.out.ext hW) (ZA.out.mono zo) (ZB.out.mono zo)))
 refine qZ ?_;refine aj ?_;intro w21 hI;have hE:=he0.out.trans hI.ext;clear hI he0 hz0 hc0 hf0;refine mV4 hE ?_ HX B3 LQ HL;clear HX B3 LQ HL;intro HX B3 LQ HL;replace b_B3:=bX3 B3;simp only [pD]
 go_wp2_with fail
 refine cM (jZ qa qn qc q ⟨ln,la,ll,lc,lb,lm,ld⟩ lo _ LQ.out.can HL.out zo HSQ.out (ZA.out.mono zo) HEV.out) fun x31 w31 hE G31=>?_
 replace HX:=hE.tr HX
 go_wp2_with fail
 refine cM (cf x31 (evV q lo) _ (G31.out.raw (HEV.out 0 (Nat.zero_le _)) dZ)) fun x32 w32 hE _=>?_
 replace HX:=hE.tr HX;rw [iF];obtain ⟨z,hz⟩:∃ z,z=Sg.sg (evV q lo):=⟨_,rfl⟩;have HCN2:Hid (Fn (qA (tz l) (loV a b) (hiV a b)=r+(if z=0 then 1 else 0))):=Hi (fun _=>by rw [HCN.out (),hz]);have hzs:=o8 (evV q lo);rw [←hz] at hzs ⊢;clear hz HCN;clear G31;by_cases h1:z=0
 case pos =>
  subst h1;have HE2:Hid (Fn (qA (tz l) (loV a b) (hiV a b)=r+1)):=Hi (fun _=>by rw [HCN2.out (),if_pos rfl]);clear HCN2;go_wp2;exact nXa (v:=.tuple #[.int .i64 (qA (tz l) (loV a b) (hiV a b)),.int .i64 0]) (by rw [HE2.out ()];simp [results,Tryz.results23,go_sem]) rfl ⟨(),rfl,HX.out,trivial⟩
 have hzb:(z == 0)=false:=by rw [nXs];exact h1
 have HE2:Hid (Fn (qA (tz l) (loV a b) (hiV a b)=r)):=Hi (fun _=>by rw [HCN2.out (),if_neg h1];omega);clear HCN2;go_wp2;exact nXa (v:=.tuple #[.int .i64 (qA (tz l) (loV a b) (hiV a b)),.int .i64 0]) (by rw [HE2.out ()];simp [results,Tryz.results23,go_sem]) rfl ⟨(),rfl,HX.out,trivial⟩
theorem rO(pa:Option Addr)(P pc:Nat)(l:List Rat)(v:Value)(s t:RH)(w:World)(h:ct w ⟨pa,P,pc⟩ l)(hP:P≤1000000)(h0:tz l=[]) :
  ak 23 [.slice pa P pc,IvV (s,t)] w (fun _:Unit=>.tuple #[.int .i64 0,.int .i64 3]) (fun _ _=>True):=by
 have HX:=Hi (Ext.refl w);have LP:=Hi h;have H0:=Hi h0;obtain ⟨sn,sa,sl,sc,sb,sm,sd⟩:=s;obtain ⟨tn,ta,tl,tc,tb,tm,td⟩:=t;clear h h0;unfold ak;go_enter Tryz.func23,Tryz.ntmps23
 go_upto_region 1 with fail
 refine fo ?_;intro w1 hE hB0 hz;have hz_w1:=nle hz;have hr_w1:=nle hz.symm;clear hz;refine mV2 hE ?_ HX LP;clear HX LP;intro HX LP;clear hB0
 go_wp2_with fail
 refine cM (dw pa P pc l _ LP.out zo) fun x10 w10 hE _=>?_
 replace HX:=hE.tr HX;rw [H0.out];simp only [List.length_nil];go_wp2;exact nXa (v:=.tuple #[.int .i64 0,.int .i64 3]) (by simp [results,Tryz.results23,go_sem]) rfl ⟨(),rfl,HX.out,trivial⟩
def mK(l:List Rat)(a b:Rat):Bool:=if tz l=[] then false else decide (qA (tz l) (loV a b) (hiV a b)=0∧0<Sg.sg (evV l a))
theorem n7(pa:Option Addr)(P pc:Nat)(l:List Rat)(K:Nat)(s t:RH)(a b:Rat)(T:Nat)(w:World)(h:ct w ⟨pa,P,pc⟩ l)(hP:P≤49)(hk:FrK K (tz l))(hK:K≤3900000)(hK2:(P+1)*(K / 3)≤25000000)(hsq:FrK K (sqfV (tz l)))
 (hs:aP w s a)(ht:aP w t b)(za:Sz T a)(zb:Sz T b)(hT3:T≤1000)(hz:SzL 40000000 l)(hE:∀ k,k≤l.length→Sz 40000000 (evV (l.drop k) a)) :
  ak 28 [.slice pa P pc,IvV (s,t)] w (fun _:Unit=>.tuple #[.bool (mK l a b),.int .i64 0]) (fun _ _=>True):=by
 obtain ⟨sn,sa,sl,sc,sb,sm,sd⟩:=s;obtain ⟨tn,ta,tl,tc,tb,tm,td⟩:=t;have HX:=Hi (Ext.refl w);have LP:=Hi h;have HS:=Hi hs;have HT:=Hi ht;have hlen:=h.len;simp only at hlen;have HKp:=Hi hk;have HKs:=Hi hsq;have ZA:=Hi za;have ZB:=Hi zb;have HZ:=Hi hz;have HEV:=Hi hE;obtain ⟨N,hN⟩:∃ N,N=(tz l).length:=⟨_,rfl⟩;have hN2:N≤49:=by rw [hN];have:=ae l;omega
 have HN:=Hi hN;clear h hs ht hk hsq za zb hlen hN hz hE;unfold ak;go_enter Tryz.func28,Tryz.ntmps28
 go_upto_region 1 with fail
 refine nmA ?_;intro w1 hE B3 hz_w1 hr_w1;refine mV4 hE ?_ HX LP HS HT;clear HX LP HS HT;intro HX LP HS HT
 go_wp2_with fail
 refine cM (dw pa P pc l _ LP.out zo) fun x9 w9 hE _=>?_
 refine mV5 hE ?_ B3 HX LP HS HT;clear B3 HX LP HS HT;intro B3 HX LP HS HT;replace b_B3:=bX3 B3;rw [←HN.out];by_cases h0:tz l=[]
 case pos =>
  have H0:=Hi h0;have HV:Hid (Fn (mK l a b=false)):=Hi (fun _=>by unfold mK;rw [if_pos H0.out]);clear h0
  go_wp2_with fail
  refine cM (rO pa P pc l (.int .i64 0) ⟨sn,sa,sl,sc,sb,sm,sd⟩ ⟨tn,ta,tl,tc,tb,tm,td⟩ _ LP.out zo H0.out) fun x14 w14 hE _=>?_
  replace HX:=hE.tr HX;go_wp2;exact nXa (v:=.tuple #[.bool (mK l a b),.int .i64 0]) (by rw [HV.out ()];simp [results,Tryz.results28,go_sem]) rfl ⟨(),rfl,HX.out,trivial⟩
 have H0:=Hi h0;clear h0
 go_wp2_with fail
 refine cM (nB pa P pc l K ⟨sn,sa,sl,sc,sb,sm,sd⟩ ⟨tn,ta,tl,tc,tb,tm,td⟩ a b T _ LP.out hP H0.out HKp.out hK hK2 HKs.out HS.out HT.out ZA.out ZB.out hT3) fun x14 w14 hE _=>?_
 refine mV4 hE ?_ B3 LP HS HX;clear B3 LP HS HX;intro B3 LP HS HX;replace b_B3:=bX3 B3;obtain ⟨n,hn⟩:∃ n,n=qA (tz l) (loV a b) (hiV a b):=⟨_,rfl⟩;have HNN:=Hi hn;rw [←hn];clear hn;by_cases h1:n=0
 case neg =>
  have hb1:(n == 0)=false:=by rw [nXs];exact h1
  have HV:Hid (Fn (mK l a b=false)):=Hi (fun _=>by unfold mK;rw [if_neg H0.out,←HNN.out];exact decide_eq_false (fun h=>h1 h.1));go_wp2;exact nXa (v:=.tuple #[.bool (mK l a b),.int .i64 0]) (by rw [HV.out ()];simp [results,Tryz.results28,go_sem]) rfl ⟨(),rfl,HX.out,trivial⟩
 subst h1
 go_wp2_with fail
 refine cM (gi pa P pc l ⟨sn,sa,sl,sc,sb,sm,sd⟩ a _ LP.out HS.out zo HZ.out (ZA.out.mono zo) HEV.out) fun x27 w27 hE G27=>?_
 replace HX:=hE.tr HX
 go_wp2_with fail
 refine cM (cf x27 (evV l a) _ (G27.out.raw (HEV.out 0 (Nat.zero_le _)) dZ)) fun x28 w28 hE _=>?_
 replace HX:=hE.tr HX;rw [iF];have hzs:=o8 (evV l a);obtain ⟨z,hz⟩:∃ z,z=Sg.sg (evV l a):=⟨_,rfl⟩;have HV:Hid (Fn (mK l a b=decide (0<z))):=Hi (fun _=>by
  unfold mK;rw [if_neg H0.out,←HNN.out,hz];by_cases h:0<Sg.sg (evV l a)
  ·rw [decide_eq_true h];exact decide_eq_true ⟨rfl,h⟩
  ·rw [decide_eq_false h];exact decide_eq_false (fun k=>h k.2))
 rw [←hz] at hzs ⊢;clear hz;go_wp2;exact nXa (v:=.tuple #[.bool (mK l a b),.int .i64 0]) (by rw [HV.out ()];simp [results,Tryz.results28,go_sem]) rfl ⟨(),rfl,HX.out,trivial⟩
end Go.Proofs.YtafgmcimcbhhjaaGreat
/- Count and Positive of package sturm and of the reference are the same. Plain facts. -/
namespace Go.Proofs.YtafgmcimcbhhjaaGreat.Sg
open Go.RowKit Go.Front Go.Num Go.Stab Go.Proofs.YtafgmcimcbhhjaaGreat
/-! ## Chains of -p -/
def ng(l:List Rat):List Rat:=l.map (·*-1)
theorem jU(l:List Rat)(n:Nat):seq (ng l) n=seq l n*-1:=aX l (-1) n
theorem pG{l:List Rat}:ng l=[]↔l=[]:=List.map_eq_nil_iff
theorem Bj(l:List Rat):(ng l).length=l.length:=nXl ..
theorem CF(l:List Rat):tz (ng l)=ng (tz l):=fT (c:=-1) dZ l
theorem sH(b:Rat):(b*-1).abs=b.abs:=by
 unfold Rat.abs;split <;> split <;> grind
theorem Bu(b:Rat):(b*-1)⁻¹=b⁻¹*-1:=by
 by_cases h:b=0
 ·subst h;decide +kernel
 ·have h1:=nYk b h;have h2:=nYk (b*-1) (fun e=>h (by grind));generalize (b*-1)⁻¹=x at *
  generalize b⁻¹=y at *
  have:x=x*(b*y):=by rw [h1,Rat.mul_one]
  rw [this];have h3:x*(b*y)=(b*-1*x)*(y*-1):=by grind
  rw [h3,h2,Rat.one_mul]
theorem Cz(a b:Rat):gU a (b*-1)=gU a b:=by
 unfold gU;by_cases ha:a=0
 ·rw [if_pos ha,if_pos ha,sH]
 ·rw [if_neg ha,if_neg ha];by_cases hb:b=0
  ·rw [if_pos hb,if_pos (by rw [hb];grind)]
  ·have e1:a / (b*-1)=-(a / b):=by
    rw [Rat.div_def,Rat.div_def,Bu];grind
   rw [if_neg hb,if_neg (fun e=>hb (by grind)),e1,Rat.neg_num,Rat.intCast_neg];rw [show a / -(((a / b).num:Int):Rat)=a / (((a / b).num:Int):Rat)*-1 from by rw [Rat.div_def,show -(((a / b).num:Int):Rat)=(((a / b).num:Int):Rat)*-1 by grind,Bu,Rat.div_def];grind,sH]
theorem CP(l:List Rat):bA (ng l)=bA l:=by
 unfold bA ng
 suffices ∀ m,List.foldl gU m (l.map (·*-1))=List.foldl gU m l from this 0
 induction l with
 | nil=>intro m;rfl
 | cons x l ih=>intro m;rw [List.map_cons,List.foldl_cons,List.foldl_cons,Cz];exact ih _
theorem uY(p:List Rat):av (ng p)=ng (av p):=by
 unfold av aM;rw [CF,CP];unfold ng;rw [List.map_map,List.map_map];exact List.map_congr_left fun x _=>by show x*-1 / _=x / _*-1;rw [Rat.div_def,Rat.div_def];grind
theorem Gw(l:List Rat)(x:Rat):evV (ng l) x=evV l x*-1:=(bJ l (-1) x).trans (nYd ..)
theorem CG{a b:List Rat}(hb:tz b≠[]):av (ng (bC (ng a) (ng b)))=ng (av (ng (bC a b))):=by
 obtain ⟨h1,-,-,h4⟩:=cx a hb;have hb2:tz (ng b)≠[]:=by rw [CF];exact fun h=>hb (pG.1 h)
 have h5:=(iT (p:=ng a) (q:=ng b) hb2 (s:=seq (bE a b)) (r:=seq (ng (bC a b))) (F:=1) (N:=(bE a b).length) (Bd.seq _) (fun i hi=>by rw [jU,Bd.seq _ i (by rw [CF,Bj] at hi;omega),nYb]) (fun n=>by
  have hs:seq (ng b)=fun i=>-1*seq b i:=funext fun i=>by rw [jU];grind
  rw [Rat.one_mul,jU,jU,h4 n,hs,fN _ (fun i=>-1*seq b i),fF,fN];grind)).2
 have h6:av (ng (bC (ng a) (ng b)))=av (ng (ng (bC a b))):=cF (c:=1) dZ (fun n=>by rw [jU,jU,h5 n];grind);rw [h6,uY (ng (bC a b))]
theorem BJ:∀ (n:Nat) (a b:List Rat),tz b=b→chn n (ng a) (ng b)=(chn n a b).map ng
 | 0,_,_,_=>rfl
 | n+1,a,b,hb=>by
  unfold chn;by_cases h1:a=[]
  ·rw [if_pos h1,if_pos (pG.2 h1)];rfl
  ·rw [if_neg h1,if_neg (fun h=>h1 (pG.1 h))];by_cases h2:b=[]
   ·rw [if_pos h2,if_pos (pG.2 h2)];rfl
   ·rw [if_neg h2,if_neg (fun h=>h2 (pG.1 h)),List.map_cons];have h3:=CG (a:=a) (b:=b) (by rw [hb];exact h2);have h4:=BJ n b (av (ng (bC a b))) (bj _);show ng a :: chn n (ng b) (av (ng (bC (ng a) (ng b))))=_;rw [h3,h4];rfl
theorem uF:∀ (l:List Int) (a:Int),vr (-a) (l.map (fun s=>-s))=vr a l
 | [],_=>rfl
 | s :: l,a=>by
  rw [List.map_cons];unfold vr;by_cases h:s=0
  ·rw [if_pos h,if_pos zo];exact uF l a
  ·rw [if_neg h,if_neg zo,uF l s]
   congr 1
   by_cases h2:a≠0∧s≠a
   ·rw [if_pos h2,if_pos zo]
   ·rw [if_neg h2,if_neg zo]
theorem Ee(l:List (List Rat))(x:Rat):d9 (l.map ng) x=d9 l x:=by
 unfold d9;rw [List.map_map,show (fun m=>sg (evV m x)) ∘ ng=fun m=>-(sg (evV m x)) from funext fun m=>by show sg (evV (ng m) x)=_;rw [Gw,jJ];show _*(-1:Int)=_;omega];rw [show (l.map fun m=>-(sg (evV m x)))=(l.map fun m=>sg (evV m x)).map (fun s=>-s) by rw [List.map_map];rfl];exact uF _ 0
theorem tG:∀ (n m:Nat) (a b:List Rat),tz b=b→b.length≤n→b.length≤m→chn (n+1) a b=chn (m+1) a b
 | n,m,a,b,hb,h1,h2=>by
  rw [chn,chn];by_cases h3:a=[]
  ·rw [if_pos h3,if_pos h3]
  ·rw [if_neg h3,if_neg h3];by_cases h4:b=[]
   ·rw [if_pos h4,if_pos h4]
   ·rw [if_neg h4,if_neg h4];have h5:=nYh.2 h4;obtain ⟨n',rfl⟩:∃ k,n=k+1:=⟨n-1,zo⟩;obtain ⟨m',rfl⟩:∃ k,m=k+1:=⟨m-1,zo⟩;have h6:=nZ a b (by rw [hb];exact h4);rw [hb] at h6;rw [tG n' m' b _ (bj _) zo zo]
 termination_by n=>n
theorem BH(p:List Rat):(av (derL p)).length≤p.length:=by
 by_cases h:tz p=[]
 ·have:tz (derL p)=[]:=uN (b:=[]) (fun i=>by
   show seq (derL p) i=_;rw [seq_derL,←aZ p,h];show _*(0:Rat)=0;rw [nYc])
  rw [cu.2 this];exact Nat.zero_le _
 ·rw [ay];obtain ⟨n,hn,-⟩:=fu h;have:=iE p n hn;have:=ae p;omega
theorem rems_same{a b:List Rat}{c:Rat}(hc:0<c)(h:∀ n,seq b n=seq a n*c):remsV b=remsV a:=by
 have h1:av b=av a:=cF hc h;have h2:av (derL b)=av (derL a):=cF hc (fun n=>by rw [seq_derL,seq_derL,h,nYe]);unfold remsV;rw [h1,h2];exact tG _ _ _ _ (bj _) (by rw [←h2];exact BH b) (BH a)
theorem Cj(p:List Rat):remsV (ng p)=(remsV p).map ng:=by
 have h2:av (derL (ng p))=ng (av (derL p)):=by
  rw [←uY];exact cF (c:=1) dZ (fun n=>by rw [jU,seq_derL,seq_derL,jU];grind)
 unfold remsV;rw [uY,h2,Bj];exact BJ _ _ _ (bj _)
theorem oZ{a b:List Rat}{c:Rat}(hc:c≠0)(h:∀ n,seq b n=seq a n*c)(x:Rat):d9 (remsV b) x=d9 (remsV a) x:=by
 by_cases h1:0<c
 ·rw [rems_same h1 h]
 ·rw [rems_same (a:=ng a) (c:=-c) (by grind) (fun n=>by rw [jU,h n];grind),Cj,Ee]
theorem tN{a b:List Rat}(h:∀ x,evV a x*evV b x=1):∃ c:Rat,c≠0∧∀ x,evV b x=c:=by
 have ha:tz a≠[]:=fun h0=>by have:=h 0;rw [ev_tznil.1 h0,nYb] at this;exact absurd this dZ
 have hb:tz b≠[]:=fun h0=>by have:=h 0;rw [ev_tznil.1 h0,nYc] at this;exact absurd this dZ
 have h1:∀ x,evV (aq a b) x=evV [1] x:=fun x=>by rw [aJ,h x];show (1:Rat)=0*x+1;grind
 have h2:=dL h1;have h3:=mp ha hb;have h4:ln [1]=1:=by decide
 have h5:=gP ha;have h6:=gP hb;have h7:(tz b).length=1:=by show ln b=1;omega
 obtain ⟨c,hc⟩:=List.length_eq_one_iff.1 h7;have h8:∀ x,evV b x=c:=fun x=>by rw [←xt b,hc];show 0*x+c=c;grind
 exact ⟨c,fun h0=>by have:=h 0;rw [h8,h0,nYc] at this;exact absurd this dZ,h8⟩
theorem Cc{p:List Rat}(h:tz p≠[])(h1:Rt p p):∃ c:Rat,c≠0∧∀ n,seq (sqfV p) n=seq p n*c:=by
 obtain ⟨g1,q1,⟨a1,rfl⟩,-,⟨-,-,u,v,⟨bu,rfl⟩,⟨bv,rfl⟩,h4⟩,h2,-⟩:=h1.dv;obtain ⟨g2,q2,⟨a2,rfl⟩,-,⟨⟨k1,⟨b1,rfl⟩,h5⟩,⟨k2,⟨b2,rfl⟩,h6⟩,-⟩,h3,-⟩:=(kB h).dv;have e1:∀ x,evV a1 x=1:=by
  have i1:∀ x,evV (aq (subV a1 [1]) p) x=0:=fun x=>by
   rw [aJ,eZ];show (evV a1 x-(0*x+1))*evV p x=0;have:=h2 x;grind
  have i2:=ev_tznil.2 i1;have i3:tz (subV a1 [1])=[]:=Classical.byContradiction fun hn=>by
   have h7:=mp hn h;have h8:=gP hn;have h9:=gP h;have h0:ln (aq (subV a1 [1]) p)=0:=by show (tz _).length=0;rw [i2];rfl
   omega
  intro x;have h7:=ev_tznil.1 i3 x;rw [eZ] at h7;have h8:evV [1] x=1:=by show 0*x+1=(1:Rat);grind
  rw [h8] at h7;grind
 obtain ⟨c,hc,h7⟩:=tN (a:=br (aq bu b1) (aq bv b2)) (b:=a2) (fun x=>by
  have i1:=h4 x;rw [e1 x,h5 x,h6 x] at i1;rw [ev_add5,aJ,aJ];grind)
 refine ⟨c⁻¹,fun h0=>by have k:=nYk c hc;rw [h0,nYc] at k;exact absurd k dZ,fun n=>?_⟩;rw [←aX];refine i9 (fun x=>?_) n;rw [bJ,h3 x,h7 x,←nYe,Rat.inv_mul_cancel c hc,Rat.one_mul]
theorem FL{p:List Rat}(h:tz p≠[])(lo hi:Rat):cntV p lo hi=qA p lo hi:=by
 have hd:∀ (r:List Rat),tz r≠[]→(rtV (remsV r) lo=true↔sg (evV r lo)=0):=fun r hr=>by
  obtain ⟨l,hl⟩:=lS hr;unfold rtV;rw [hl,decide_eq_true_eq];show sg (evV (av r) lo)=0↔_;rw [lI]
 have hne:=(kB h).ne;unfold cntV qA;rw [fG,fG];by_cases hr:2≤((remsV p).getLast?.getD []).length
 ·have e:rootV p=sqfV p:=by unfold rootV;rw [if_pos hr]
  rw [e];by_cases h0:sg (evV (sqfV p) lo)=0
  ·rw [if_pos h0,if_pos ((hd _ hne).2 h0)]
  ·rw [if_neg h0,if_neg (fun k=>h0 ((hd _ hne).1 k))]
 ·have e:rootV p=p:=by unfold rootV;rw [if_neg hr]
  have hrt:=vw h;rw [e] at hrt ⊢;obtain ⟨c,hc,h1⟩:=Cc h hrt;rw [oZ hc h1,oZ hc h1];have h2:evV (sqfV p) lo=c*evV p lo:=gQ (fun n=>by rw [h1 n,nYd]) lo;by_cases h0:sg (evV p lo)=0
  ·rw [if_pos ((hd _ h).2 h0),if_pos (by rw [h2,jJ,h0,Int.mul_zero])]
  ·rw [if_neg (fun k=>h0 ((hd _ h).1 k)),if_neg (fun k=>by
    rw [h2,jJ] at k;rcases Int.mul_eq_zero.1 k with k|k
    ·exact hc (lL.1 k)
    ·exact h0 k)]
theorem pos_eq{p:List Rat}{lo hi:Rat}(hlh:lo≤hi):posV (tz p) lo hi=mK p lo hi:=by
 unfold posV mK;rw [aI];by_cases h:tz p=[]
 ·rw [if_pos h,if_pos h]
 ·rw [if_neg h,if_neg h,mL hlh,mM hlh,lI,xt];by_cases h1:sg (evV p lo)≤0
  ·rw [if_pos h1,decide_eq_false (fun k=>by have:=k.2;omega)]
  ·rw [if_neg h1,FL (by rw [aI];exact h)];by_cases h2:qA (tz p) lo hi=0
   ·rw [decide_eq_true h2,decide_eq_true ⟨h2,zo⟩]
   ·rw [decide_eq_false h2,decide_eq_false (fun k=>h2 k.1)]
end Go.Proofs.YtafgmcimcbhhjaaGreat.Sg
/- Positive for lists of any form. -/
namespace Go.Proofs.YtafgmcimcbhhjaaGreat
open Go.RowKit Go.Front Go.Num Stab
attribute [local go_sem] XW.cell XW.frozen
theorem vE(p:List Rat):Sg.remsV (tz p)=Sg.remsV p :=
 (Sg.rems_same (c:=1) dZ (fun n=>by rw [aZ,Rat.mul_one])).symm
theorem CN(p:List Rat):bF (tz p)=bF p:=Pr.mon ⟨1,dZ,fun n=>by rw [aZ,Rat.one_mul]⟩
theorem AT(p:List Rat):Sg.sqfV (tz p)=Sg.sqfV p:=by
 have hd:tz (Sg.derL (tz p))=tz (Sg.derL p):=jQ (fun n=>by rw [Sg.seq_derL,Sg.seq_derL,aZ]);have hg:cY (tz p) (Sg.derL (tz p))=cY p (Sg.derL p):=by
  rw [←k8,hd,k8];unfold cY;rw [CN]
 have hq:bE (tz p) (cY p (Sg.derL p))=bE p (cY p (Sg.derL p)):=by unfold bE;rw [aI]
 unfold Sg.sqfV;rw [hg,hq]
theorem FK(p:List Rat)(lo hi:Rat):Sg.cntV (tz p) lo hi=Sg.cntV p lo hi:=by
 have h:Sg.remsV (Sg.rootV (tz p))=Sg.remsV (Sg.rootV p):=by
  unfold Sg.rootV;rw [vE,AT];split
  ·rfl
  ·exact vE p
 unfold Sg.cntV;rw [h]
theorem EN(p:List Rat)(lo hi:Rat):Sg.posV (tz p) lo hi=Sg.posV p lo hi:=by
 unfold Sg.posV;rw [aI,nQ,FK]
theorem Cs{p:List Rat}{lo hi:Rat}(h:lo≤hi):Sg.posV p lo hi=mK p lo hi:=by rw [←EN,Sg.pos_eq h]
open Sg
theorem yZ(pa:Option Addr)(P pc:Nat)(p:List Rat)(K:Nat)(s t:RH)(a b:Rat)(T:Nat)(w:World)(h:ct w ⟨pa,P,pc⟩ p)(hP:P≤49)(hk:FrK K p)(hkq:FrK K (sqfV p))(hK:K≤12000000)(hK2:(P+1)*(K / 3)≤25000000)
 (hs:aP w s a)(ht:aP w t b)(za:Sz T a)(zb:Sz T b)(hT:1≤T)(hT3:T≤1000) :
  ak 27 [.slice pa P pc,IvV (s,t)] w (fun _:Unit=>.tuple #[.bool (posV p (loV a b) (hiV a b)),.int .i64 0]) (fun _ _=>True):=by
 obtain ⟨sn,sa,sl,sc,sb,sm,sd⟩:=s;obtain ⟨tn,ta,tl,tc,tb,tm,td⟩:=t;have HX:=Hi (Ext.refl w);have LP:=Hi (RIn.of h);have HS:=Hi hs;have HT:=Hi ht;have hlen:=h.len;simp only at hlen;have HKp:=Hi hk;have HKs:=Hi hkq;obtain ⟨S,D,hS,hD,hDW,hF,hSK⟩:=hk;have hSs:=KZ.small hSK;have HF:=Hi hF;have HSW:Hid (∀ y ∈ av p,Wz S y):=Hi (em (fun x hx=>hF x (gO hx)) hD);have HSl:Hid ((av p).length≤P):=Hi (by rw [ay,←hlen];exact ae p);have ZA:Hid (Sz T (loV a b)):=Hi (by rcases Ac a b with e|e <;> rw [e] <;> assumption);have ZB:Hid (Sz T (hiV a b)):=Hi (by rcases Ak a b with e|e <;> rw [e] <;> assumption);have HLH:Hid (loV (loV a b) (hiV a b)=loV a b∧hiV (loV a b) (hiV a b)=hiV a b):=Hi ⟨mL (Ad a b),mM (Ad a b)⟩;obtain ⟨lo,hlo⟩:∃ lo,lo=loV a b:=⟨_,rfl⟩;obtain ⟨hi,hhi⟩:∃ hi,hi=hiV a b:=⟨_,rfl⟩;rw [←hlo] at ZA;rw [←hhi] at ZB;rw [←hlo,←hhi] at HLH;have HLO:=Hi hlo;have HHI:=Hi hhi;have HLn:=Hi hlen;rw [←hlo,←hhi];clear h hs ht hkq za zb hlo hhi hF hSK hlen;unfold ak;go_enter Tryz.func27,Tryz.ntmps27
 go_upto_region 1 with fail
 refine nmA ?_;intro w1 hE B3 hz_w1 hr_w1;refine mV4 hE ?_ HX LP HS HT;clear HX LP HS HT;intro HX LP HS HT
 go_wp2_with fail
 refine cM (sx pa P pc p _ LP.out.raw) fun x9 w9 hE _=>?_
 refine mV5 hE ?_ B3 HX LP HS HT;clear B3 HX LP HS HT;intro B3 HX LP HS HT;replace b_B3:=bX3 B3;by_cases h0:tz p=[]
 case pos =>
  have HE:Hid (posV p lo hi=false):=Hi (by unfold posV;rw [if_pos h0]);have HCk:Hid (ux p=3):=Hi (by unfold ux;rw [if_neg (by rw [h0];decide),if_pos h0]);rw [HCk.out];clear h0;go_wp2;exact nXa (v:=.tuple #[.bool (posV p lo hi),.int .i64 0]) (by rw [HE.out];simp [results,Tryz.results27,go_sem]) rfl ⟨(),rfl,HX.out,trivial⟩
 have H0:=Hi h0;rw [FO h0 (by rw [HLn.out];exact hP)];clear h0;have HNV:Hid (posV p lo hi=if Sg.sg (evV (av p) lo)≤0 then false else decide (cntV p lo hi=0)):=Hi (by
  unfold posV;rw [if_neg H0.out])
 go_wp2_with fail
 refine cM (nt ⟨sn,sa,sl,sc,sb,sm,sd⟩ ⟨tn,ta,tl,tc,tb,tm,td⟩ a b _ HS.out HT.out) fun x15 w15 hE G15=>?_
 refine mV3 hE ?_ B3 HX LP;clear B3 HX LP;intro B3 HX LP;replace b_B3:=bX3 B3;obtain ⟨⟨ln,la,ll,lc,lb,lm,ld⟩,⟨hn,ha,hl,hc,hb,hm,hd⟩⟩:=x15;rw [←HLO.out,←HHI.out] at G15;have HL:=Hi G15.out.1;have HH:=Hi G15.out.2;clear G15;clear HS;clear HT
 go_upto_region 7 with fail
 refine bh B3.out rfl ?_;intro w16 T;replace HX:=Hi (T.ext HX.out zo);replace LP:=Hi (LP.out.put T zo);replace B3:=Hi (T.bx);replace HL:=Hi (HL.out.keep T.keep);replace HH:=Hi (HH.out.keep T.keep);clear T;replace b_B3:=bX3 B3;obtain ⟨s1,hs1⟩:∃ s1,s1=Sg.sg (evV (av p) lo):=⟨_,rfl⟩;have HS1:=Hi hs1;rw [←hs1] at HNV;clear hs1;refine wpG 6 (fun opIx=>match opIx with
  | 1=>.spec (SH) (default) (SH.v) (fun x w'=>D4 (av p).length w' x (av p))
  | 4=>sU (.int .i64 s1)
  | _=>.quiet) (fun|4=>[1]|_=>[]) fun w0 he0 hz0 hc0 hf0=>?_
 refine wps he0 (fun w1 hW hG=>?_) fun x20=>?_
 ·exact spc [.slice pa P pc] Tryz.func77 ((lH pa P pc p S D _ (LP.out.ext hW).raw zo hS zo hD hDW HF.out).wk (fun x w' _ h=>(let ⟨_,_,_,_,h4⟩:=h.lin (by have:=HSl.out;omega);⟨h4.can,h4.len.symm⟩)))
 refine qZ ?_;refine wps he0 (fun w1 hW hG=>?_) fun x21=>?_
 ·have g20:=gS (hG 1 dZ);exact spc [x20.v,RH.v ⟨ln,la,ll,lc,lb,lm,ld⟩] Tryz.func79 ((by rw [HS1.out];exact lF x20.a x20.n x20.c (av p) ⟨ln,la,ll,lc,lb,lm,ld⟩ lo S T _ g20.1 (HL.out.ext hW) (by rw [g20.2];have:=HSl.out;omega) HSW.out ZA.out hT hS zo hT3))
 refine qZ ?_;refine aj ?_;intro w17 hI;have hE:=he0.out.trans hI.ext;clear hI he0 hz0 hc0 hf0;refine mV5 hE ?_ HX B3 HH LP HL;clear HX B3 HH LP HL;intro HX B3 HH LP HL;replace b_B3:=bX3 B3;simp only [pD];by_cases hn1:s1≤0
 case pos =>
  have HE:Hid (posV p lo hi=false):=Hi (by rw [HNV.out,if_pos hn1]);go_wp2;exact nXa (v:=.tuple #[.bool (posV p lo hi),.int .i64 0]) (by rw [HE.out];simp [results,Tryz.results27,go_sem]) rfl ⟨(),rfl,HX.out,trivial⟩
 rw [if_neg (fun h=>by omega)] at HNV
 go_wp2_with fail
 refine cM (tW pa P pc p K ⟨ln,la,ll,lc,lb,lm,ld⟩ ⟨hn,ha,hl,hc,hb,hm,hd⟩ lo hi T _ LP.out.raw hP H0.out HKp.out hK hK2 HKs.out (HL.out.raw ZA.out zo) (HH.out.raw ZB.out zo) ZA.out ZB.out hT hT3) fun x25 w25 hE _=>?_
 replace HX:=hE.tr HX;rw [HLH.out.1,HLH.out.2];obtain ⟨c,hcc⟩:∃ c,c=cntV p lo hi:=⟨_,rfl⟩;rw [←hcc] at HNV ⊢;clear hcc;by_cases hc0:c=0
 ·have HE:Hid (posV p lo hi=true):=Hi (by rw [HNV.out,decide_eq_true hc0]);subst hc0;go_wp2;exact nXa (v:=.tuple #[.bool (posV p lo hi),.int .i64 0]) (by rw [HE.out];simp [results,Tryz.results27,go_sem]) rfl ⟨(),rfl,HX.out,trivial⟩
 ·have HE:Hid (posV p lo hi=false):=Hi (by rw [HNV.out,decide_eq_false hc0]);have hcb:(c == 0)=false:=by rw [nXs];exact hc0
  go_wp2;exact nXa (v:=.tuple #[.bool (posV p lo hi),.int .i64 0]) (by rw [HE.out];simp [results,Tryz.results27,go_sem]) rfl ⟨(),rfl,HX.out,trivial⟩
end Go.Proofs.YtafgmcimcbhhjaaGreat
/- The divisors of a polynomial with whole coefficients are small: Gauss's lemma, and a polynomial from its values. Plain facts. -/
namespace Go.Proofs.YtafgmcimcbhhjaaGreat.Sg
open Go.RowKit Go.Front Go.Num Go.Stab Go.Proofs.YtafgmcimcbhhjaaGreat Sie
theorem EU{g a b:Rat}(ha:Mu g a)(hb:Mu g b)(h0:a≠0∨b≠0):Mu g (gU a b):=by
 have habs:∀ {x:Rat},Mu g x→Mu g x.abs:=fun {x} ⟨z,hz,e⟩=>by
  rcases yD x with k|k
  ·exact ⟨z,hz,by rw [k,e]⟩
  ·exact ⟨-z,hz.neg,by rw [k,e];grind⟩
 unfold gU;by_cases ha0:a=0
 ·rw [if_pos ha0];exact habs hb
 ·rw [if_neg ha0];by_cases hb0:b=0
  ·rw [if_pos hb0];exact ha
  ·rw [if_neg hb0];refine habs ?_;obtain ⟨z,hz,rfl⟩:=ha;obtain ⟨y,hy,rfl⟩:=hb;have hg:g≠0:=fun h=>ha0 (by rw [h];grind)
   have hz0:z≠0:=fun h=>ha0 (by rw [h];grind)
   have hy0:y≠0:=fun h=>hb0 (by rw [h];grind)
   have e:z*g / (y*g)=z / y:=k9 hg z hy0;rw [e];have h1:=low (z / y);have h2:=aK (a:=z) hy0;have hq0:z / y≠0:=fun h=>hz0 (by rw [←h2,h];grind)
   have hN:=nm hq0;rw [hz.eq,hy.eq] at h1 h2;rw [hz.eq,hy.eq] at hN ⊢;generalize hq:(z.num:Rat) / (y.num:Rat)=q at *
   -- z den=y num
   have h3:z.num*q.den=y.num*q.num:=by
    have:(z.num:Rat)*(q.den:Rat)=(y.num:Rat)*(q.num:Rat):=by rw [←h1,←h2];grind
    have h4:((z.num*q.den:Int):Rat)=((y.num*q.num:Int):Rat):=by
     rw [Rat.intCast_mul,Rat.intCast_mul,Rat.intCast_natCast];exact this
    exact Rat.intCast_inj.1 h4
   have hd:q.num ∣ z.num:=by
    have h4:q.num ∣ z.num*q.den:=⟨y.num,by rw [h3,Int.mul_comm]⟩;have h5:q.num.natAbs ∣ z.num.natAbs*q.den:=by
     have:=Int.natAbs_dvd_natAbs.2 h4
     rwa [Int.natAbs_mul,nYi] at this
    exact Int.natAbs_dvd_natAbs.1 (Nat.Coprime.dvd_of_dvd_mul_right q.reduced h5)
   obtain ⟨k,hk⟩:=hd;refine ⟨(k:Rat),Wh.int k,?_⟩;have h6:=aK (a:=(z.num:Rat)*g) hN;have h7:(z.num:Rat)=(q.num:Rat)*(k:Rat):=by rw [hk,Rat.intCast_mul]
   have h8:((z.num:Rat)*g / (q.num:Rat)-(k:Rat)*g)*(q.num:Rat)=0:=by rw [Rat.sub_eq_add_neg,Rat.add_mul,h6,h7];grind
   rcases nXr.1 h8 with h|h
   ·grind
   ·exact absurd h hN
theorem CM{g:Rat}(l:List Rat)(h:∀ x ∈ l,Mu g x):Mu g (bA l):=by
 induction l using snoc_ind with
 | h0=>exact Mu.zero g
 | h1 l r ih =>
  rw [eU];have h1:=ih (fun x hx=>h x (List.mem_append_left _ hx));have h2:=h r (by simp);by_cases h3:bA l≠0∨r≠0
  ·exact EU h1 h2 h3
  ·have e1:bA l=0:=Decidable.byContradiction fun h4=>h3 (Or.inl h4)
   have e2:r=0:=Decidable.byContradiction fun h4=>h3 (Or.inr h4)
   rw [e1,e2,tD];exact Mu.zero g
theorem qL(p:List Rat)(i:Nat):seq (av p) i=(((seq (av p) i).num:Int):Rat):=by
 rcases Nat.lt_or_ge i (av p).length with h4|h4
 ·exact (AX p _ (bU h4)).eq
 ·rw [show seq (av p) i=0 from bH h4];rfl
theorem zf{p:List Rat}(hp:tz p≠[]){t:Int}(h:∀ i,t ∣ (seq (av p) i).num):t.natAbs=1:=by
 have hm:=bM hp;have h1:Mu ((t:Rat)*aM p) (aM p):=CM (tz p) fun x hx=>by
  obtain ⟨i,hi,rfl⟩:=dK hx;rw [bi];have h2:=cQ p i;obtain ⟨k,hk⟩:=h i;have h3:=qL p i;refine ⟨(k:Rat),Wh.int k,?_⟩;show seq p i=_;rw [h2,h3,hk,Rat.intCast_mul];grind
 obtain ⟨z,hz,e⟩:=h1;have h2:z*(t:Rat)=1:=by
  have h3:(z*(t:Rat)-1)*aM p=0:=by grind
  rcases nXr.1 h3 with h|h
  ·grind
  ·rw [h] at hm;exact absurd hm Rat.lt_irrefl
 rw [hz.eq,←Rat.intCast_mul] at h2;have h4:z.num*t=1:=Rat.intCast_inj.1 h2;exact Int.natAbs_dvd_natAbs.2 (⟨z.num,by rw [←h4,Int.mul_comm]⟩:t ∣ 1) |> fun h=>Nat.dvd_one.1 h
theorem wH:∀ N:Nat,2≤N→∃ r,2≤r∧r ∣ N∧∀ x y:Int,(r:Int) ∣ x*y→(r:Int) ∣ x∨(r:Int) ∣ y:=by
 intro N hN;have key:∀ n:Nat,∀ r,2≤r→r≤n→r ∣ N→∃ r,2≤r∧r ∣ N∧∀ d,d ∣ N→2≤d→r≤d:=by
  intro n;induction n with
  | zero=>intro r h1 h2;omega
  | succ n ih =>
   intro r h1 h2 h3;by_cases h4:∃ d,d ∣ N∧2≤d∧d<r
   ·obtain ⟨d,d1,d2,d3⟩:=h4;exact ih d d2 zo d1
   ·exact ⟨r,h1,h3,fun d d1 d2=>Classical.byContradiction fun h5=>h4 ⟨d,d1,d2,zo⟩⟩
 obtain ⟨r,h1,h2,h3⟩:=key N N hN (nXe N) (Nat.dvd_refl N);refine ⟨r,h1,h2,fun x y h=>?_⟩;have hg:Nat.gcd r x.natAbs=1∨Nat.gcd r x.natAbs=r:=by
  have a1:=Nat.gcd_dvd_left r x.natAbs;have a2:Nat.gcd r x.natAbs ∣ N:=Nat.dvd_trans a1 h2;have a3:=Nat.le_of_dvd zo a1;have a4:0<Nat.gcd r x.natAbs:=Nat.gcd_pos_of_pos_left _ zo;rcases Nat.lt_or_ge (Nat.gcd r x.natAbs) 2 with h4|h4
  ·left;omega
  ·right
   have:=h3 _ a2 h4;omega
 have hn:r ∣ x.natAbs*y.natAbs:=by
  have:=Int.natAbs_dvd_natAbs.2 h
  rwa [nYi,Int.natAbs_mul] at this
 rcases hg with h4|h4
 ·right
  exact Int.natAbs_dvd_natAbs.1 (by rw [nYi];exact Nat.Coprime.dvd_of_dvd_mul_left h4 hn)
 ·left
  exact Int.natAbs_dvd_natAbs.1 (by rw [nYi,←h4];exact Nat.gcd_dvd_right _ _)
theorem pX{r:Int}{f:Nat→Int}(h:∃ i,¬ r ∣ f i):∃ i,¬ r ∣ f i∧∀ j,j<i→r ∣ f j:=by
 obtain ⟨i,hi⟩:=h;induction i using Nat.strongRecOn with
 | _ i ih =>
  by_cases h2:∃ j,j<i∧¬ r ∣ f j
  ·obtain ⟨j,h3,h4⟩:=h2;exact ih j h3 h4
  ·exact ⟨i,hi,fun j hj=>Decidable.byContradiction fun h=>h2 ⟨j,hj,h⟩⟩
theorem Ag{r:Int}{n:Nat}{f:Nat→Int}(h:∀ i,i<n→r ∣ f i):r ∣ jr n f:=by
 induction n with
 | zero=>exact ⟨0,by simp [jr]⟩
 | succ n ih=>exact Int.dvd_add (ih fun i hi=>h i zo) (h n (Nat.lt_succ_self n))
theorem Ah{r:Int}:∀ {n:Nat} {f:Nat→Int} {k:Nat},k<n→(∀ i,i<n→i≠k→r ∣ f i)→r ∣ jr n f→r ∣ f k:=by
 intro n;induction n with
 | zero=>intro f k h;omega
 | succ n ih =>
  intro f k hk h hs;have hs':r ∣ jr n f+f n:=hs;by_cases h1:k=n
  ·subst h1;exact (Int.dvd_add_right (Ag fun i hi=>h i zo zo)).1 hs'
  ·exact ih zo (fun i hi hne=>h i zo hne) ((Int.dvd_add_left (h n (Nat.lt_succ_self n) zo)).1 hs')
theorem Gt{r:Nat}(hr:∀ x y:Int,(r:Int) ∣ x*y→(r:Int) ∣ x∨(r:Int) ∣ y){f g:Nat→Int}(hf:∃ i,¬ (r:Int) ∣ f i)(hg:∃ i,¬ (r:Int) ∣ g i):∃ n,¬ (r:Int) ∣ jr (n+1) (fun i=>f i*g (n-i)):=by
 obtain ⟨a,ha,ha2⟩:=pX hf;obtain ⟨b,hb,hb2⟩:=pX hg;refine ⟨a+b,fun h=>?_⟩;have h1:=Ah (k:=a) zo (fun i hi hne=>?_) h
 ·rw [show a+b-a=b by omega] at h1;rcases hr _ _ h1 with h2|h2
  ·exact ha h2
  ·exact hb h2
 ·rcases Nat.lt_or_ge i a with h2|h2
  ·exact Int.dvd_mul_of_dvd_left (ha2 i h2)
  ·exact Int.dvd_mul_of_dvd_right (hb2 (a+b-i) zo)
theorem AD{q g h:List Rat}(hq:∀ i,Wh (seq q i))(hq0:tz q≠[])(hg:av g=g)(he:∀ x,evV q x=evV g x*evV h x):∀ i,Wh (seq h i):=by
 have hg0:tz g≠[]:=fun h0=>by
  obtain ⟨y,hy⟩:=rv hq0;exact hy (by rw [he,ev_tznil.1 h0 y];grind)
 have hh0:tz h≠[]:=fun h0=>by
  obtain ⟨y,hy⟩:=rv hq0;exact hy (by rw [he,ev_tznil.1 h0 y];grind)
 have whs:=qL;have hc:∀ n,(seq q n)*((aM h).den:Rat)=((aM h).num:Rat)*((jr (n+1) (fun i=>(seq g i).num*(seq (av h) (n-i)).num):Int):Rat):=fun n=>by
  have h1:=i9 (p:=q) (q:=aq g h) (fun x=>by rw [aJ,he]) n;rw [h1,eB,iG,pM];have h2:cv (seq g) (seq h) n=aM h*sm (n+1) (fun i=>(((seq g i).num*(seq (av h) (n-i)).num:Int):Rat)):=by
   rw [←lJ];refine sm_congr fun i hi=>?_
   rw [Rat.intCast_mul,←whs h,cQ h (n-i)];have h3:=whs g i;rw [hg] at h3;rw [←h3];grind
  rw [h2];have h4:=low (aM h);rw [←h4];grind
 have hd:(aM h).den=1:=by
  apply Classical.byContradiction;intro hd;have hd2:2≤(aM h).den:=by have:=(aM h).den_pos;omega
  obtain ⟨r,r1,r2,r3⟩:=wH _ hd2;have hpf:∀ {p:List Rat},tz p≠[]→∃ i,¬ (r:Int) ∣ (seq (av p) i).num:=fun {p} hp=>Classical.byContradiction fun hn=>by
   have:=zf hp (t:=(r:Int)) (fun i=>Classical.byContradiction fun h=>hn ⟨i,h⟩);rw [nYi] at this;omega
  have hgf:=hpf hg0;rw [hg] at hgf;obtain ⟨n,hn⟩:=Gt r3 hgf (hpf hh0);apply hn;have h1:=hc n;rw [(hq n).eq] at h1;have h2:(seq q n).num*(aM h).den=(aM h).num*jr (n+1) (fun i=>(seq g i).num*(seq (av h) (n-i)).num):=by
   apply Rat.intCast_inj.1;rw [Rat.intCast_mul,Rat.intCast_mul,Rat.intCast_natCast];exact h1
  have h3:(r:Int) ∣ (aM h).num*jr (n+1) (fun i=>(seq g i).num*(seq (av h) (n-i)).num):=by
   rw [←h2];obtain ⟨k,hk⟩:=r2;exact ⟨(seq q n).num*k,by rw [hk,Int.natCast_mul];grind⟩
  rcases r3 _ _ h3 with h4|h4
  ·exfalso;have h5:r ∣ (aM h).num.natAbs:=by
    have:=Int.natAbs_dvd_natAbs.2 h4
    rwa [nYi] at this
   have h6:=Nat.dvd_gcd h5 r2;rw [(aM h).reduced] at h6;have:=Nat.dvd_one.1 h6;omega
  ·exact h4
 intro i;rw [cQ h i];exact Wh.mul hd (by rw [whs h i];exact Wh.int _)
end Go.Proofs.YtafgmcimcbhhjaaGreat.Sg
