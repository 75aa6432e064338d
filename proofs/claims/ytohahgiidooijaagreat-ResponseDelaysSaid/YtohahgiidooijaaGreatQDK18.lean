/- roots, Count, Positive of package dspcompilerref06; Squarefree of dspcompilerref05. -/
import Derived.Test.YtohahgiidooijaaGreatQDK17
import Derived.Test.YtohahgiidooijaaGreatQDK14
import Derived.Test.YtohahgiidooijaaGreatQDK10
import Derived.Test.YtohahgiidooijaaGreatQDK12
set_option linter.unusedVariables false
set_option maxHeartbeats 8000000
set_option maxRecDepth 8000
namespace Go.Proofs.YtohahgiidooijaaGreat
open Go.RowKit Go.Front Go.Num Stab Sg
attribute [local go_sem] XW.cell XW.frozen
theorem DF{K:Nat}:∀ (fuel:Nat) (a b:List Rat) (X:Nat),RmI K a b X→∀ m ∈ chn fuel a b,∀ y ∈ m,Wz K y:=by
 intro fuel;induction fuel with
 | zero=>intro a b X _ m hm;simp [chn] at hm
 | succ fuel ih =>
  intro a b X h m hm;have hs:=h.small;by_cases ha:a=[]
  ·rw [show chn (fuel+1) a b=[] by simp [chn,ha]] at hm;simp at hm
  ·by_cases hb:b=[]
   ·subst hb;rw [fW ha] at hm;obtain rfl:m=a:=by simpa using hm
    exact fun y hy=>(h.2.2.1 y hy).mono (by omega)
   ·rw [gS ha hb] at hm;rcases List.mem_cons.1 hm with rfl|hm
    ·exact fun y hy=>(h.2.2.1 y hy).mono (by omega)
    ·obtain ⟨s,r,f,hf,hdv⟩:=wl (wm h.2.2.1 h.2.2.2.1 h.1 h.2.1 hb);obtain ⟨hN,X2,hI2⟩:=h.next hb hf hdv;rw [hN] at hI2;exact ih _ _ _ hI2 m hm
theorem Bl{K S D:Nat}{p:List Rat}(hS:1≤S)(hD:0<D)(hf:FrL S D p)(hl:p.length≤1000)(h0:tz p≠[])(hK:KZ K S p.length):∀ m ∈ eS p,∀ y ∈ m,Wz K y:=by
 obtain ⟨X,-,h⟩:=mp hS hD hf hl h0 hK;rw [tU] at h;exact DF _ _ _ X h
theorem EQ:∀ (fuel:Nat) (a b:List Rat),tz a=a→tz b=b→∀ m ∈ chn fuel a b,tz m=m:=by
 intro fuel;induction fuel with
 | zero=>intro a b _ _ m hm;simp [chn] at hm
 | succ fuel ih =>
  intro a b h1 h2 m hm;by_cases ha:a=[]
  ·rw [show chn (fuel+1) a b=[] by simp [chn,ha]] at hm;simp at hm
  ·by_cases hb:b=[]
   ·subst hb;rw [fW ha] at hm;obtain rfl:m=a:=by simpa using hm
    exact h1
   ·rw [gS ha hb] at hm;rcases List.mem_cons.1 hm with rfl|hm
    ·exact h1
    ·exact ih _ _ h2 (bY _) m hm
theorem wS{K S D T:Nat}{p:List Rat}{x:Rat}(hS:1≤S)(hD:0<D)(hf:FrL S D p)(hl:p.length≤100)(h0:tz p≠[])(hK:KZ K S p.length)(hK2:K≤30000000)(hx:Sz T x)(hT:T≤10000):Mz (o5 p) x:=by
 have h1:=Bl hS hD hf (by omega) h0 hK;have h2:=yC p;have h3:=yB h0;have hK1:1≤K:=by have:=hK.small;omega
 rw [wT];refine ⟨by rw [nXk];omega,fun k hk=>?_⟩;rw [nXk] at hk;have hm:(eS p).getD k [] ∈ eS p:=by
  rw [nXc,List.getElem?_eq_getElem hk];exact List.getElem_mem _
 have e:((eS p).map bt).getD k []=bt ((eS p).getD k []):=by
  rw [nXc,nXc,nXu,List.getElem?_eq_getElem hk];rfl
 have ht:tz ((eS p).getD k [])=(eS p).getD k []:=EQ _ _ _ (bY _) (bY _) _ hm;have hml:=h3 _ hm;obtain ⟨E,e1,e2,e3⟩:=pj (h1 _ hm) ht hK1;rw [e];have hul:(bt ((eS p).getD k [])).length≤100:=by rw [kv,ht];omega
 refine ⟨hul,(e3.sz hK1 e1 e2).mono (by omega),fun j hj=>(AJ e3 hx hK1 e1 e2 j).mono ?_⟩;have h5:(bt ((eS p).getD k [])).length*(T+1)≤100*10001:=nXw hul (by omega);omega
theorem sR(v:SH)(ms:List (List Rat))(s t:RH)(a b:Rat)(w:World)(hc:ChR w v ms)(hza:Mz ms a)(hzb:Mz ms b)(hs:ay w s a)(ht:ay w t b)(za:Sz 10000000 a)(zb:Sz 10000000 b) :
  au 138 [v.v,s.v,t.v] w (fun _:Unit=>.int .i64 ((im ms a:Int)-im ms b)) (fun _ _=>True):=by
 obtain ⟨va,vn,vc⟩:=v;obtain ⟨sn,sa,sl,sc,sb,sm,sd⟩:=s;obtain ⟨tn,ta,tl,tc,tb,tm,td⟩:=t;have HX:=Hi (Ext.refl w);have HC:=Hi hc;have HS:=Hi hs;have HT:=Hi ht;have ZA:=Hi za;have ZB:=Hi zb;have HMA:=Hi hza;have HMB:=Hi hzb;have hl:=hza.ln;have v1:=qD ms a;have v2:=qD ms b;obtain ⟨x1,hx1⟩:∃ x1,x1=im ms a:=⟨_,rfl⟩;obtain ⟨x2,hx2⟩:∃ x2,x2=im ms b:=⟨_,rfl⟩;have HV1:=Hi hx1;have HV2:=Hi hx2;have HE:Hid ((im ms a:Int)-im ms b=(x1:Int)-(x2:Int)):=Hi (by rw [hx1,hx2]);rw [←hx1] at v1;rw [←hx2] at v2;clear hc hs ht za zb hx1 hx2 hza hzb;unfold au;go_enter Tryz.func138,Tryz.ntmps138;simp only [SH.v]
 go_upto_region 1 with fail
 refine jV ?_;intro w1 hE B4 B5 hz_w1 hr_w1;refine mV4 hE ?_ HX HC HS HT;clear HX HC HS HT;intro HX HC HS HT;have hs_w1:=hE.size;clear hE;replace b_B4:=bX3 B4;replace b_B5:=bX3 B5;refine wpG 7 (fun opIx=>match opIx with
  | 2=>.spec Unit () (fun _=>.int .i64 (x1:Nat)) (fun _ _=>True)
  | 5=>.spec Unit () (fun _=>.int .i64 (x2:Nat)) (fun _ _=>True)
  | _=>.quiet) (fun _=>[]) fun w0 he0 hz0 hc0 hf0=>?_
 refine wps he0.out rfl rfl (fun w1 hW hG=>?_) fun x20=>?_
 ·exact spc [SH.v ⟨va,vn,vc⟩,RH.v ⟨sn,sa,sl,sc,sb,sm,sd⟩] Tryz.func194 ((by rw [HV1.out];exact qE ⟨va,vn,vc⟩ ms ⟨sn,sa,sl,sc,sb,sm,sd⟩ a _ (HC.out.ext hW) HMA.out (HS.out.ext hW) ZA.out))
 refine qZ ?_;refine wps he0.out rfl rfl (fun w1 hW hG=>?_) fun x21=>?_
 ·exact spc [SH.v ⟨va,vn,vc⟩,RH.v ⟨tn,ta,tl,tc,tb,tm,td⟩] Tryz.func194 ((by rw [HV2.out];exact qE ⟨va,vn,vc⟩ ms ⟨tn,ta,tl,tc,tb,tm,td⟩ b _ (HC.out.ext hW) HMB.out (HT.out.ext hW) ZB.out))
 refine qZ ?_;refine aq ?_;intro w2 hI;have hE:=he0.out.trans hI.ext;clear hI he0 hz0 hc0 hf0;refine mV6 hE ?_ B4 B5 HX HS HC HT;clear B4 B5 HX HS HC HT;intro B4 B5 HX HS HC HT;have hs_w2:=hE.size;clear hE;replace b_B4:=bX3 B4;replace b_B5:=bX3 B5;simp only [pD];go_wp2
 go_ret
 exact ⟨(),by rw [HE.out];rfl,HX.out,trivial⟩
theorem uG(pa:Option Addr)(P pc:Nat)(l:List Rat)(K:Nat)(w:World)(h:bX w ⟨pa,P,pc⟩ l)(hP:P≤500)(h0:tz (tz l)≠[])(hk:FrK K (tz l))(hK:K≤3900000)(hK2:(P+1)*(K / 3)≤25000000)(hs:FrK K (sqfV (tz l))) :
  au 137 [.slice pa P pc] w SH.v (fun x w'=>aJ w' x (sqfV (tz l))):=by
 have LR:=Hi h;have HX:=Hi (Ext.refl w);have Hln:=Hi h.len;simp only at Hln;obtain ⟨p,hp⟩:∃ p,p=tz l:=⟨_,rfl⟩;rw [←hp] at h0 hk hs ⊢;have Hp:=Hi hp;have hlen:p.length≤P:=by rw [hp,←Hln.out];exact af l
 have htp:tz p=p:=by rw [hp,av]
 obtain ⟨S,D,hS,hD,hD2,hf,hSK⟩:=hk;obtain ⟨U,E,hU,hE,hE2,hfU,hUK⟩:=hs;have hp1:1≤p.length:=by
  have:=af p;have:=nYf.2 h0;omega
 have hS3:=KZ.small3 hp1 hSK;have hUs:=KZ.small hUK;have hz:=hf.sz hS hD hD2;have HSz:Hid (SzL S p):=Hi hz;have HQ:Hid (SzL 8000000 (aP p (bv p (bA p)))):=Hi ((DI h0 hz (hfU.sz hU hE hE2)).mono (by omega));have HF:Hid (FrL (S+1) D p):=Hi (hf.mono (by omega));have HF1:Hid (FrL S D p):=Hi hf;have HDF:Hid (∀ x ∈ tz (bA p),Fr (S+1) D x):=Hi (nB hf (by omega));have hD3:D<W32 ^ (S+1):=nXm hD2 (nXo aC (by omega));have HDl:Hid ((tz (bA p)).length+1≤P):=Hi (by have:=r9 h0;omega);have hgl0:(bv p (bA p)).length≤P:=by have:=Ci h0;omega
 have hql0:(aP p (bv p (bA p))).length≤P:=by have:=uE h0;omega
 have HG0:Hid (tz (bv p (bA p))≠[]):=Hi (vM h0);have HSK:Hid (GZ K (S+1) p (tz (bA p))):=Hi (D8 hD hf (by omega) h0 hSK);obtain ⟨m0,hm0⟩:∃ m0,p.length=m0+1:=⟨p.length-1,by omega⟩;have HM0:=Hi hm0;clear h hf hfU hUK hSK hz h0 hp1 hp hm0;unfold au;go_enter Tryz.func137,Tryz.ntmps137
 go_wp2_with fail
 refine cM (aN pa P pc l _ LR.out (by omega)) fun x7 w7 hE G7=>?_
 replace HX:=hE.tr HX;have hs_w7:=hE.size;clear hE;obtain ⟨qa,Q,qc⟩:=x7;have LP:Hid (LIn w7 ⟨qa,Q,qc⟩ p 0 w7.heap.size):=Hi (by rw [Hp.out];exact G7.out.can.lin);have hQ:Q=m0+1:=by have h1:=LP.out.len;have h2:=HM0.out;simp only at h1;omega
 subst hQ;have hQP:m0+1≤P:=by have:=HM0.out;omega
 have hz0:((m0:Int)+1 == 0)=false:=by rw [nXr];omega
 clear G7;simp only [SH.v]
 go_wp2_with fail
 refine cM (se qa (m0+1) qc p _ LP.out.can (by omega) (HSz.out.mono (by omega))) fun x15 w15 hE G15=>?_
 refine mV2 hE ?_ HX LP;clear HX LP;intro HX LP;have hs_w15:=hE.size;clear hE;obtain ⟨da,dn,dc⟩:=x15;have HD3:Hid (LIn w15 ⟨da,dn,dc⟩ (tz (bA p)) 0 w15.heap.size):=Hi G15.out.can.lin;clear G15;have hdn:dn+1≤P:=by have h1:=HD3.out.len;have h2:=HDl.out;simp only at h1;omega
 simp only [SH.v]
 go_wp2_with fail
 refine cM (zA qa da (m0+1) qc dn dc p (tz (bA p)) (S+1) D D _ LP.out.can HD3.out.can (by omega) (by omega) (by omega) hD hD3 hD hD3 HF.out HDF.out K HSK.out (by omega)) fun x16 w16 hE G16=>?_
 refine mV3 hE ?_ HX LP HD3;clear HX LP HD3;intro HX LP HD3;have hs_w16:=hE.size;clear hE;rw [zu] at G16;obtain ⟨ga,gn,gc⟩:=x16;have HGL:=Hi G16.out.1.lin;obtain ⟨X,F,hFX,hX1,hF0,hF2,hXK⟩:=G16.out.2;have HFX:=Hi hFX;have hX3:=GcR.small hXK;clear G16 hFX hXK;have hgl:=HGL.out.len;simp only at hgl;have hgm:gn≤P:=by omega
 have Hgl:=Hi hgl;clear hgl;clear HD3;have hm1:P*(X+1)≤P*(K / 3):=nXf _ hX3;have hm2:(P+1)*(K / 3)=P*(K / 3)+K / 3:=nXx _ _;have hm3:(m0+1+1)*(X+1)≤(P+1)*(K / 3):=nXw (by omega) hX3
 (try dsimp only)
 go_wp2_with fail
 refine cM (pZ qa ga (m0+1) qc gn gc p (bv p (bA p)) S X D F _ LP.out.can HGL.out.can (by omega) (by omega) hS hX1 hD hD2 hF0 hF2 HF1.out HFX.out HG0.out (by omega)) fun x17 w17 hE G17=>?_
 refine mV3 hE ?_ HX LP HGL;clear HX LP HGL;intro HX LP HGL;have hs_w17:=hE.size;clear hE;obtain ⟨⟨ea,en,ec⟩,⟨ra,rn,rc⟩⟩:=x17;have HQL:=Hi G17.out.1.lin;clear G17;have hqn:=HQL.out.len;simp only at hqn;have hen:en≤P:=by omega
 clear hqn;simp only [QT] at *
 (try dsimp only)
 go_wp2_with fail
 refine cM (j8 ea en ec (aP p (bv p (bA p))) 8000000 _ HQL.out.can (by omega) (by omega) HQ.out) fun x22 w22 hE G22=>?_
 refine mV4 hE ?_ HX LP HGL HQL;clear HX LP HGL HQL;intro HX LP HGL HQL;have hs_w22:=hE.size;clear hE;go_wp2
 go_ret
 exact ⟨x22,rfl,HX.out,G22.out.can⟩
def Fn(A:Prop):Prop:=Unit→A
theorem tk(pa:Option Addr)(P pc:Nat)(l:List Rat)(K:Nat)(s t:RH)(a b:Rat)(T:Nat)(w:World)(h:bX w ⟨pa,P,pc⟩ l)(hP:P≤49)(h0:tz l≠[])(hk:FrK K (tz l))(hK:K≤3900000)(hK2:(P+1)*(K / 3)≤25000000)(hsq:FrK K (sqfV (tz l)))
 (hs:bp w s a)(ht:bp w t b)(za:Sz T a)(zb:Sz T b)(hT3:T≤1000) :
  au 78 [.slice pa P pc,IvV (s,t)] w (fun _:Unit=>.tuple #[.int .i64 (wO (tz l) (loV a b) (hiV a b)),.int .i64 0]) (fun _ _=>True):=by
 obtain ⟨sn,sa,sl,sc,sb,sm,sd⟩:=s;obtain ⟨tn,ta,tl,tc,tb,tm,td⟩:=t;have HX:=Hi (Ext.refl w);have LP:=Hi h;have LPw:=Hi h;have HS:=Hi hs;have HT:=Hi ht;have hlen:=h.len;simp only at hlen;have HKp:=Hi hk;have HKs:=Hi hsq;have h00:tz (tz l)≠[]:=by rw [av];exact h0
 have H0:=Hi h00;have hq0:=(tT h00).ne;have ZA:Hid (Sz T (loV a b)):=Hi (by rcases Fz a b with e|e <;> rw [e] <;> assumption);have ZB:Hid (Sz T (hiV a b)):=Hi (by rcases FF a b with e|e <;> rw [e] <;> assumption);obtain ⟨N,hN⟩:∃ N,N=(tz l).length:=⟨_,rfl⟩;have hN1:1≤N:=by rw [hN];exact nYf.2 h0
 have hN2:N≤49:=by rw [hN];have:=af l;omega
 have HN:=Hi hN;obtain ⟨q,hq⟩:∃ q,q=sqfV (tz l):=⟨_,rfl⟩;have hql:q.length≤49:=by rw [hq];have:=Bc h00;have:=af l;omega
 rw [←hq] at hq0 hsq;obtain ⟨U,E,hU,hE,hE2,hfU,hUK⟩:=hsq;have hUs:=KZ.small hUK;have HFU:=Hi hfU;have HUK:=Hi hUK;have HQ0:=Hi hq0;obtain ⟨lo,hlo⟩:∃ lo,lo=loV a b:=⟨_,rfl⟩;obtain ⟨hi,hhi⟩:∃ hi,hi=hiV a b:=⟨_,rfl⟩;rw [←hlo] at ZA;rw [←hhi] at ZB;have HMA:Hid (Mz (o5 q) lo):=Hi (wS hU hE hfU (by omega) hq0 hUK (by omega) ZA.out (by omega));have HMB:Hid (Mz (o5 q) hi):=Hi (wS hU hE hfU (by omega) hq0 hUK (by omega) ZB.out (by omega));have HSQ:Hid (SzL 40000000 q):=Hi ((hfU.sz hU hE hE2).mono (by omega));have HEV:Hid (∀ k,k≤q.length→Sz 40000000 (evV (q.drop k) lo)):=Hi (fun k hk=>(AJ hfU ZA.out hU hE hE2 k).mono (by
  have:q.length*(T+1)≤49*1001:=nXw hql (by omega);omega))
 have v1:=qD (o5 q) lo;have v2:=qD (o5 q) hi;have hml:=HMA.out.ln;obtain ⟨r,hr⟩:∃ r:Int,r=(im (o5 q) lo:Int)-im (o5 q) hi:=⟨_,rfl⟩;have hr1:-1000≤r∧r≤1000:=by omega
 have HR:=Hi hr;have HCN:Hid (Fn (wO (tz l) (loV a b) (hiV a b)=r+(if Sg.sg (evV q lo)=0 then 1 else 0))):=Hi (fun _=>by rw [hr,←hlo,←hhi,hq];rfl);have HQE:=Hi hq;have HLO:=Hi hlo;have HHI:=Hi hhi;clear h hs ht hk h0 h00 za zb hlo hhi hlen hN hq hq0 hfU hUK v1 v2 hml hr;unfold au;go_enter Tryz.func78,Tryz.ntmps78
 go_upto_region 1 with fail
 refine nmA ?_;intro w1 hE B3 hz_w1 hr_w1;refine mV4 hE ?_ HX LP HS HT;clear HX LP HS HT;intro HX LP HS HT;have hs_w1:=hE.size;clear hE;replace b_B3:=bX3 B3
 go_wp2_with fail
 refine cM (eR pa P pc l _ LP.out (by omega)) fun x10 w10 hE _=>?_
 refine mV5 hE ?_ B3 HX LP HS HT;clear B3 HX LP HS HT;intro B3 HX LP HS HT;have hs_w10:=hE.size;clear hE;replace b_B3:=bX3 B3;rw [←HN.out];have hg1:¬ (48:Int)<(N:Int)-1:=by omega
 have hg2:¬ (N:Int)-1<0:=by omega
 go_wp2_with fail
 refine cM (k9 ⟨sn,sa,sl,sc,sb,sm,sd⟩ ⟨tn,ta,tl,tc,tb,tm,td⟩ a b _ HS.out HT.out) fun x18 w18 hE G18=>?_
 refine mV5 hE ?_ B3 HX LP HS HT;clear B3 HX LP HS HT;intro B3 HX LP HS HT;have hs_w18:=hE.size;clear hE;replace b_B3:=bX3 B3;obtain ⟨⟨ln,la,ll,lc,lb,lm,ld⟩,⟨hn,ha,hl,hc,hb,hm,hd⟩⟩:=x18;rw [←HLO.out,←HHI.out] at G18;have HL:=Hi G18.out.1;have HH:=Hi G18.out.2;clear G18 hg1 hg2;clear HS;clear HT;clear LP
 go_upto_region 7 with fail
 refine pO B3.out rfl ?_;intro w19 T;replace HX:=Hi (T.ext HX.out (by omega));replace B3:=Hi (T.bx);replace HL:=Hi (HL.out.keep T.keep);replace HH:=Hi (HH.out.keep T.keep);have hs_w19:=nle T.size;have hr_w19:=nle T.size.symm;clear T;replace b_B3:=bX3 B3
 go_wp2_with fail
 refine cM (uG pa P pc l K _ (LPw.out.ext HX.out) (by omega) H0.out HKp.out hK hK2 HKs.out) fun x20 w20 hE G20=>?_
 refine mV4 hE ?_ HX B3 HL HH;clear HX B3 HL HH;intro HX B3 HL HH;have hs_w20:=hE.size;clear hE;replace b_B3:=bX3 B3;obtain ⟨qa,qn,qc⟩:=x20;rw [←HQE.out] at G20;have LQ:=Hi G20.out.lin;have hqn:qn≤49:=by have h1:=G20.out.len;simp only at h1;omega
 have HQl:Hid (q.length=qn):=Hi G20.out.len;clear G20;simp only [SH.v]
 go_upto_region 8 with fail
 have HUK2:Hid (KZ K U qn):=Hi (by rw [←HQl.out];exact HUK.out);refine wpG 7 (fun opIx=>match opIx with
  | 1=>.spec (SH) (default) (SH.v) (fun x w'=>ChR w' x (o5 q))
  | 6=>.spec Unit () (fun _=>.int .i64 r) (fun _ _=>True)
  | _=>.quiet) (fun|6=>[1]|_=>[]) fun w0 he0 hz0 hc0 hf0=>?_
 refine wps he0.out rfl rfl (fun w1 hW hG=>?_) fun x30=>?_
 ·exact spc [.slice qa qn qc] Tryz.func139 (tp qa qn qc q U E K _ (LQ.out.can.ext hW) (by omega) HQ0.out hU hE hE2 HFU.out HUK2.out (by omega))
 refine qZ ?_;refine wps he0.out rfl rfl (fun w1 hW hG=>?_) fun x31=>?_
 ·have g30:=(hG 1 (by decide):aD _ _).get fun _ e g=>g.ext e
  exact spc [x30.v,RH.v ⟨ln,la,ll,lc,lb,lm,ld⟩,RH.v ⟨hn,ha,hl,hc,hb,hm,hd⟩] Tryz.func138 ((by rw [HR.out];exact sR x30 (o5 q) ⟨ln,la,ll,lc,lb,lm,ld⟩ ⟨hn,ha,hl,hc,hb,hm,hd⟩ lo hi _ g30 HMA.out HMB.out (HL.out.ext hW) (HH.out.ext hW) (ZA.out.mono (by omega)) (ZB.out.mono (by omega))))
 refine qZ ?_;refine aq ?_;intro w21 hI;have hE:=he0.out.trans hI.ext;have G30:=gT (hI.facts 1);clear hI he0 hz0 hc0 hf0;refine mV5 hE ?_ HX B3 LQ HL HH;clear HX B3 LQ HL HH;intro HX B3 LQ HL HH;have hs_w21:=hE.size;clear hE;replace b_B3:=bX3 B3;simp only [pD];clear G30
 go_wp2_with fail
 refine cM (oM qa qn qc q ⟨ln,la,ll,lc,lb,lm,ld⟩ lo _ LQ.out.can HL.out (by omega) HSQ.out (ZA.out.mono (by omega)) HEV.out) fun x31 w31 hE G31=>?_
 refine mV5 hE ?_ HX B3 LQ HL HH;clear HX B3 LQ HL HH;intro HX B3 LQ HL HH;have hs_w31:=hE.size;clear hE;replace b_B3:=bX3 B3
 go_wp2_with fail
 refine cM (gK x31 (evV q lo) _ (G31.out.raw (HEV.out 0 (Nat.zero_le _)) (by decide))) fun x32 w32 hE _=>?_
 refine mV6 hE ?_ G31 HX B3 LQ HL HH;clear G31 HX B3 LQ HL HH;intro G31 HX B3 LQ HL HH;have hs_w32:=hE.size;clear hE;replace b_B3:=bX3 B3;rw [wP];obtain ⟨z,hz⟩:∃ z,z=Sg.sg (evV q lo):=⟨_,rfl⟩;have HCN2:Hid (Fn (wO (tz l) (loV a b) (hiV a b)=r+(if z=0 then 1 else 0))):=Hi (fun _=>by rw [HCN.out (),hz]);have hzs:=sP (evV q lo);rw [←hz] at hzs ⊢;clear hz HCN;clear G31;by_cases h1:z=0
 case pos =>
  subst h1;have HE2:Hid (Fn (wO (tz l) (loV a b) (hiV a b)=r+1)):=Hi (fun _=>by rw [HCN2.out (),if_pos rfl]);clear HCN2;go_wp2;exact bodyPost_ret (v:=.tuple #[.int .i64 (wO (tz l) (loV a b) (hiV a b)),.int .i64 0]) (by rw [HE2.out ()];simp [results,Tryz.results78,go_sem]) rfl ⟨(),rfl,HX.out,trivial⟩
 have hzb:(z == 0)=false:=by rw [nXr];exact h1
 have HE2:Hid (Fn (wO (tz l) (loV a b) (hiV a b)=r)):=Hi (fun _=>by rw [HCN2.out (),if_neg h1];omega);clear HCN2;go_wp2;exact bodyPost_ret (v:=.tuple #[.int .i64 (wO (tz l) (loV a b) (hiV a b)),.int .i64 0]) (by rw [HE2.out ()];simp [results,Tryz.results78,go_sem]) rfl ⟨(),rfl,HX.out,trivial⟩
theorem qj(pa:Option Addr)(P pc:Nat)(l:List Rat)(v:Value)(s t:RH)(w:World)(h:bX w ⟨pa,P,pc⟩ l)(hP:P≤1000000)(h0:tz l=[]) :
  au 78 [.slice pa P pc,IvV (s,t)] w (fun _:Unit=>.tuple #[.int .i64 0,.int .i64 3]) (fun _ _=>True):=by
 have HX:=Hi (Ext.refl w);have LP:=Hi h;have H0:=Hi h0;obtain ⟨sn,sa,sl,sc,sb,sm,sd⟩:=s;obtain ⟨tn,ta,tl,tc,tb,tm,td⟩:=t;clear h h0;unfold au;go_enter Tryz.func78,Tryz.ntmps78
 go_upto_region 1 with fail
 refine nmA ?_;intro w1 hE B3 hz_w1 hr_w1;refine mV2 hE ?_ HX LP;clear HX LP;intro HX LP;have hs_w1:=hE.size;clear hE;replace b_B3:=bX3 B3
 go_wp2_with fail
 refine cM (eR pa P pc l _ LP.out (by omega)) fun x10 w10 hE _=>?_
 refine mV3 hE ?_ B3 HX LP;clear B3 HX LP;intro B3 HX LP;have hs_w10:=hE.size;clear hE;replace b_B3:=bX3 B3;rw [H0.out];simp only [List.length_nil];go_wp2;exact bodyPost_ret (v:=.tuple #[.int .i64 0,.int .i64 3]) (by simp [results,Tryz.results78,go_sem]) rfl ⟨(),rfl,HX.out,trivial⟩
def lQ(l:List Rat)(a b:Rat):Bool:=if tz l=[] then false else decide (wO (tz l) (loV a b) (hiV a b)=0∧0<Sg.sg (evV l a))
theorem mW(pa:Option Addr)(P pc:Nat)(l:List Rat)(K:Nat)(s t:RH)(a b:Rat)(T:Nat)(w:World)(h:bX w ⟨pa,P,pc⟩ l)(hP:P≤49)(hk:FrK K (tz l))(hK:K≤3900000)(hK2:(P+1)*(K / 3)≤25000000)(hsq:FrK K (sqfV (tz l)))
 (hs:bp w s a)(ht:bp w t b)(za:Sz T a)(zb:Sz T b)(hT3:T≤1000)(hz:SzL 40000000 l)(hE:∀ k,k≤l.length→Sz 40000000 (evV (l.drop k) a)) :
  au 22 [.slice pa P pc,IvV (s,t)] w (fun _:Unit=>.tuple #[.bool (lQ l a b),.int .i64 0]) (fun _ _=>True):=by
 obtain ⟨sn,sa,sl,sc,sb,sm,sd⟩:=s;obtain ⟨tn,ta,tl,tc,tb,tm,td⟩:=t;have HX:=Hi (Ext.refl w);have LP:=Hi h;have HS:=Hi hs;have HT:=Hi ht;have hlen:=h.len;simp only at hlen;have HKp:=Hi hk;have HKs:=Hi hsq;have ZA:=Hi za;have ZB:=Hi zb;have HZ:=Hi hz;have HEV:=Hi hE;obtain ⟨N,hN⟩:∃ N,N=(tz l).length:=⟨_,rfl⟩;have hN2:N≤49:=by rw [hN];have:=af l;omega
 have HN:=Hi hN;clear h hs ht hk hsq za zb hlen hN hz hE;unfold au;go_enter Tryz.func22,Tryz.ntmps22
 go_upto_region 1 with fail
 refine nmA ?_;intro w1 hE B3 hz_w1 hr_w1;refine mV4 hE ?_ HX LP HS HT;clear HX LP HS HT;intro HX LP HS HT;have hs_w1:=hE.size;clear hE;replace b_B3:=bX3 B3
 go_wp2_with fail
 refine cM (eR pa P pc l _ LP.out (by omega)) fun x9 w9 hE _=>?_
 refine mV5 hE ?_ B3 HX LP HS HT;clear B3 HX LP HS HT;intro B3 HX LP HS HT;have hs_w9:=hE.size;clear hE;replace b_B3:=bX3 B3;rw [←HN.out];have hg1:¬ (48:Int)<(N:Int)-1:=by omega
 by_cases h0:tz l=[]
 case pos =>
  have H0:=Hi h0;have HV:Hid (Fn (lQ l a b=false)):=Hi (fun _=>by unfold lQ;rw [if_pos H0.out]);clear h0
  go_wp2_with fail
  refine cM (qj pa P pc l (.int .i64 0) ⟨sn,sa,sl,sc,sb,sm,sd⟩ ⟨tn,ta,tl,tc,tb,tm,td⟩ _ LP.out (by omega) H0.out) fun x14 w14 hE _=>?_
  refine mV5 hE ?_ B3 HX LP HS HT;clear B3 HX LP HS HT;intro B3 HX LP HS HT;have hs_w14:=hE.size;clear hE;replace b_B3:=bX3 B3;go_wp2;exact bodyPost_ret (v:=.tuple #[.bool (lQ l a b),.int .i64 0]) (by rw [HV.out ()];simp [results,Tryz.results22,go_sem]) rfl ⟨(),rfl,HX.out,trivial⟩
 have H0:=Hi h0;clear h0
 go_wp2_with fail
 refine cM (tk pa P pc l K ⟨sn,sa,sl,sc,sb,sm,sd⟩ ⟨tn,ta,tl,tc,tb,tm,td⟩ a b T _ LP.out hP H0.out HKp.out hK hK2 HKs.out HS.out HT.out ZA.out ZB.out hT3) fun x14 w14 hE _=>?_
 refine mV5 hE ?_ B3 HX LP HS HT;clear B3 HX LP HS HT;intro B3 HX LP HS HT;have hs_w14:=hE.size;clear hE;replace b_B3:=bX3 B3;obtain ⟨n,hn⟩:∃ n,n=wO (tz l) (loV a b) (hiV a b):=⟨_,rfl⟩;have HNN:=Hi hn;rw [←hn];clear hn;by_cases h1:n=0
 case neg =>
  have hb1:(n == 0)=false:=by rw [nXr];exact h1
  have HV:Hid (Fn (lQ l a b=false)):=Hi (fun _=>by unfold lQ;rw [if_neg H0.out,←HNN.out];exact decide_eq_false (fun h=>h1 h.1));go_wp2;exact bodyPost_ret (v:=.tuple #[.bool (lQ l a b),.int .i64 0]) (by rw [HV.out ()];simp [results,Tryz.results22,go_sem]) rfl ⟨(),rfl,HX.out,trivial⟩
 subst h1
 go_wp2_with fail
 refine cM (vY pa P pc l ⟨sn,sa,sl,sc,sb,sm,sd⟩ a _ LP.out HS.out (by omega) HZ.out (ZA.out.mono (by omega)) HEV.out) fun x27 w27 hE G27=>?_
 refine mV5 hE ?_ B3 HX LP HS HT;clear B3 HX LP HS HT;intro B3 HX LP HS HT;have hs_w27:=hE.size;clear hE;replace b_B3:=bX3 B3
 go_wp2_with fail
 refine cM (gK x27 (evV l a) _ (G27.out.raw (HEV.out 0 (Nat.zero_le _)) (by decide))) fun x28 w28 hE _=>?_
 refine mV6 hE ?_ G27 B3 HX LP HS HT;clear G27 B3 HX LP HS HT;intro G27 B3 HX LP HS HT;have hs_w28:=hE.size;clear hE;replace b_B3:=bX3 B3;rw [wP];have hzs:=sP (evV l a);obtain ⟨z,hz⟩:∃ z,z=Sg.sg (evV l a):=⟨_,rfl⟩;have HV:Hid (Fn (lQ l a b=decide (0<z))):=Hi (fun _=>by
  unfold lQ;rw [if_neg H0.out,←HNN.out,hz];by_cases h:0<Sg.sg (evV l a)
  ·rw [decide_eq_true h];exact decide_eq_true ⟨rfl,h⟩
  ·rw [decide_eq_false h];exact decide_eq_false (fun k=>h k.2))
 rw [←hz] at hzs ⊢;clear hz;go_wp2;exact bodyPost_ret (v:=.tuple #[.bool (lQ l a b),.int .i64 0]) (by rw [HV.out ()];simp [results,Tryz.results22,go_sem]) rfl ⟨(),rfl,HX.out,trivial⟩
end Go.Proofs.YtohahgiidooijaaGreat
/- The group delay in lowest terms: its denominator is positive on [-1, 1]. Plain facts. -/
namespace Go.Proofs.YtohahgiidooijaaGreat
open Go.RowKit Go.Front Go.Num Stab
theorem lz(p q:List Rat)(x:Rat):evV (subV p q) x=evV p x-evV q x:=by
 unfold subV;rw [Sg.ev_add5];have h:evV (q.map (fun y=>-y)) x=-1*evV q x:=dD (fun n=>by
  show (q.map (fun y=>-y)).getD n 0=-1*q.getD n 0;rw [nXc,nXc,nXu];cases q[n]? with
  | none=>show (0:Rat)=-1*0;grind
  | some v=>show -v=-1*v;grind) x
 rw [h];grind
theorem Er{b a:List Rat}(hb:tz b≠[])(ha:tz a≠[]):∃ (n' e':List Rat) (c:Rat),0<c∧(∀ x,-1≤x→x≤1→c≤evV e' x)∧∀ x,evV (dlN b a) x*evV e' x=evV n' x*evV (dlD b a) x:=by
 obtain ⟨n1,d1,c1,h1,h2,h3⟩:=oW hb;obtain ⟨n2,d2,c2,k1,k2,k3⟩:=oW ha;refine ⟨subV (ag n1 d2) (ag n2 d1),ag d1 d2,c1*c2,Rat.mul_pos h1 k1,fun x hx hy=>?_,fun x=>?_⟩
 ·have a1:=h2 x hx hy;have a2:=k2 x hx hy;rw [Sg.ev_mul5];have a3:=Rat.mul_nonneg (show 0≤evV d1 x-c1 by grind) (show 0≤evV d2 x by grind);have a4:=Rat.mul_nonneg (show 0≤c1 by grind) (show 0≤evV d2 x-c2 by grind);grind
 ·have a1:=h3 x;have a2:=k3 x;unfold dlN dlD;rw [lz,lz];simp only [Sg.ev_mul5];generalize evV (ah (bF b) b) x=A at *
  generalize evV (ah (bF a) a) x=B at *
  generalize evV (ah b b) x=P at *
  generalize evV (ah a a) x=Q at *
  generalize evV n1 x=X1 at *
  generalize evV n2 x=X2 at *
  generalize evV d1 x=Y1 at *
  generalize evV d2 x=Y2 at *
  have e1:(A*Q-B*P)*(Y1*Y2)=(A*Y1)*Q*Y2-(B*Y2)*P*Y1:=by grind
  rw [e1,a1,a2];grind
theorem BV{N D n' e':List Rat}{c:Rat}(hD:tz D≠[])(hc:0<c)(he:∀ x,-1≤x→x≤1→c≤evV e' x)(h:∀ x,evV N x*evV e' x=evV n' x*evV D x) :
  ∃ k:Rat,0<k∧∀ x,-1≤x→x≤1→k≤evV (aP D (bv N D)) x∨evV (aP D (bv N D)) x≤-k:=by
 have hG:=Sg.gcd_spec N D;have hg:tz (bv N D)≠[]:=fun h0=>hD (Sg.ev_tznil.2 fun x=>by
  obtain ⟨q,-,h1⟩:=hG.2.1;rw [h1 x,Sg.ev_tznil.1 h0 x,nXz])
 have h1:=Sg.quo_exact hg hG.1;have h2:=Sg.quo_exact hg hG.2.1;obtain ⟨-,-,uf,vf,⟨u,rfl⟩,⟨v,rfl⟩,h3⟩:=hG;obtain ⟨g,hgg⟩:∃ g,g=bv N D:=⟨_,rfl⟩;obtain ⟨n1,hn1⟩:∃ n1,n1=aP N (bv N D):=⟨_,rfl⟩;obtain ⟨d1,hd1⟩:∃ d1,d1=aP D (bv N D):=⟨_,rfl⟩;rw [←hd1] at h2 ⊢;rw [←hn1] at h1;rw [←hgg] at h1 h2 h3 hg;have cop:∀ x,evV u x*evV n1 x+evV v x*evV d1 x=1:=fun x=>by
  have a:=de hg (a:=aS (ag u n1) (ag v d1)) (b:=[1]) (fun x=>by
   have:=h3 x;rw [h1 x,h2 x] at this;rw [Sg.ev_add5,Sg.ev_mul5,Sg.ev_mul5];have e1:evV [1] x=1:=by show 0*x+1=(1:Rat);grind
   rw [e1];grind) x
  rw [Sg.ev_add5,Sg.ev_mul5,Sg.ev_mul5] at a;rw [a];show 0*x+1=(1:Rat);grind
 have low:∀ x,evV n1 x*evV e' x=evV n' x*evV d1 x:=fun x=>by
  have a:=de hg (a:=ag n1 e') (b:=ag n' d1) (fun x=>by
   have:=h x;rw [h1 x,h2 x] at this;rw [Sg.ev_mul5,Sg.ev_mul5];grind) x
  rwa [Sg.ev_mul5,Sg.ev_mul5] at a
 obtain ⟨K,hK⟩:∃ K,K=aS (ag u n') (ag v e'):=⟨_,rfl⟩;have ek:∀ x,evV e' x=evV d1 x*evV K x:=fun x=>by
  rw [hK,Sg.ev_add5,Sg.ev_mul5,Sg.ev_mul5];have a1:=cop x;have a2:=low x;have e1:evV e' x=(evV u x*evV n1 x+evV v x*evV d1 x)*evV e' x:=by rw [a1,Rat.one_mul]
  rw [e1];have e2:(evV u x*evV n1 x+evV v x*evV d1 x)*evV e' x=evV u x*(evV n1 x*evV e' x)+evV v x*evV d1 x*evV e' x:=by grind
  rw [e2,a2];grind
 obtain ⟨M1,hM1,m1⟩:=v8 K;obtain ⟨M2,hM2,m2⟩:=v8 (K.map (·*-1));have hM:0<M1+M2:=by grind
 have hcM:c / (M1+M2)*(M1+M2)=c:=Rat.div_mul_cancel (by grind);have hk:=Sg.divP hc hM;refine ⟨c / (M1+M2),hk,fun x hx hy=>?_⟩;have b1:=m1 x hx hy;have b2:=m2 x hx hy;rw [Sg.ev_map] at b2;have b3:=he x hx hy;rw [ek x] at b3;generalize evV d1 x=d at *
 generalize evV K x=k at *
 generalize c / (M1+M2)=q at *
 rcases Rat.le_total (a:=q) (b:=d) with h5|h5
 ·exact Or.inl h5
 ·rcases Rat.le_total (a:=d) (b:=-q) with h6|h6
  ·exact Or.inr h6
  ·-- |d| <= q and |k| <= M: the product is at most c;it is c only at the ends
   have p1:=Rat.mul_nonneg (show 0≤q-d by grind) (show 0≤(M1+M2)+k by grind);have p2:=Rat.mul_nonneg (show 0≤q+d by grind) (show 0≤(M1+M2)-k by grind)
   -- (q-d)(M+k)+(q+d)(M-k)=2 (q M-d k)
   have p3:(q-d)*((M1+M2)+k)+(q+d)*((M1+M2)-k)=2*(q*(M1+M2)-d*k):=by grind
   have p4:(q-d)*((M1+M2)+k)=0:=by grind
   have p5:(q+d)*((M1+M2)-k)=0:=by grind
   rcases nXq.1 p4 with h7|h7
   ·left;grind
   ·rcases nXq.1 p5 with h8|h8
    ·right;grind
    ·exfalso;grind
theorem rF{d:List Rat}{k:Rat}(hk:0<k)(h:∀ x,-1≤x→x≤1→k≤evV d x∨evV d x≤-k)(h1:0≤evV d 1):∀ x,-1≤x→x≤1→k≤evV d x:=by
 obtain ⟨K,hK,hl⟩:=Sg.ev_lip d (-1) 1;have hK1:0<K+1:=by grind
 have hd:0<k / (K+1):=Sg.divP hk hK1;have hdk:k / (K+1)*(K+1)=k:=Rat.div_mul_cancel (by grind);obtain ⟨δ,hδ⟩:∃ δ,δ=k / (K+1):=⟨_,rfl⟩;rw [←hδ] at hd hdk;have key:∀ n:Nat,∀ x,-1≤x→x≤1→1-x≤(n:Rat)*δ→k≤evV d x:=by
  intro n;induction n with
  | zero =>
   intro x hx hy hz;have e0:((0:Nat):Rat)=0:=rfl;rw [e0,nXz] at hz;obtain rfl:x=1:=by grind
   rcases h 1 (by decide) (by decide) with h2|h2
   ·exact h2
   ·grind
  | succ n ih =>
   intro x hx hy hz;have en:((n+1:Nat):Rat)=(n:Rat)+1:=by rw [Rat.natCast_add];rfl
   rw [en] at hz;have step:∀ y,x≤y→y≤1→y-x≤δ→k≤evV d y→k≤evV d x:=fun y hxy hy1 hyd hky=>by
    have b:=hl x y hx hxy hy1;have b2:=b.2;have b3:=Rat.mul_nonneg hK (show 0≤δ-(y-x) by grind);have b4:K*δ<k:=by grind
    rcases h x hx hy with h2|h2
    ·exact h2
    ·exfalso;grind
   rcases Rat.le_total (a:=x+δ) (b:=1) with h2|h2
   ·exact step (x+δ) (by grind) h2 (by grind) (ih (x+δ) (by grind) h2 (by grind))
   ·refine step 1 hy (by decide) (by grind) (ih 1 (by decide) (by decide) ?_);have:=Rat.mul_nonneg (Rat.natCast_nonneg (a:=n)) (Rat.le_of_lt hd);grind
 intro x hx hy;obtain ⟨n,-,hn⟩:=Stab.arch (2 / δ);refine key n x hx hy ?_;have h2:2 / δ*δ=2:=Rat.div_mul_cancel (by grind);have h3:=Rat.mul_nonneg (show 0≤(n:Rat)-2 / δ by grind) (Rat.le_of_lt hd);grind
theorem uH{p:List Rat}{k:Rat}(hk:0<k)(h:∀ x,-1≤x→x≤1→k≤evV p x):lQ p (-1) 1=true:=by
 have h0:=h (-1) (by decide) (by decide);have hz:tz p≠[]:=fun e=>by have:=Sg.ev_tznil.1 e (-1);grind
 unfold lQ;rw [if_neg hz,D7 (by decide),Ec (by decide),decide_eq_true_eq];refine ⟨Sg.cnt6_on hk (-1) 1 (by decide) (fun x hx hy=>by rw [jC];exact h x hx hy),?_⟩;rw [Sg.sg_pos (show 0<evV p (-1) by grind)];decide
theorem jd(p q:List Rat):tz (ah p q)=ah p q:=by unfold ah fbV;exact av _
theorem xX{q:List Rat}{k:Rat}(hk:0<k)(hbig:∀ x,-1≤x→x≤1→k≤evV q x∨evV q x≤-k):(¬ evV q ((1:Int):Rat)<0→lQ q (-1) 1=true)∧(evV q ((1:Int):Rat)<0→lQ (ngV q) (-1) 1=true):=by
 have e1:evV q ((1:Int):Rat)=evV q 1:=rfl;rw [e1];refine ⟨fun h1=>uH hk (rF hk hbig (by grind)),fun h1=>?_⟩;have en:∀ x,evV (ngV q) x=-evV q x:=fun x=>by
  unfold ngV;rw [jC,Sg.ev_map];show -1*_=_;grind
 refine uH hk (rF hk (fun x hx hy=>?_) (by rw [en];grind));rw [en];rcases hbig x hx hy with h2|h2
 ·right;grind
 ·left;grind
theorem vz{P:Prop}[Decidable P]{q m:List Rat}{s:Int}(hn:¬ P→lQ q (-1) 1=true)(hp:P→lQ m (-1) 1=true){u v:List Rat}:lQ (if P then (s,u,m) else (s,v,q)).2.2 (-1) 1=true:=by
 by_cases h:P
 ·rw [if_pos h];exact hp h
 ·rw [if_neg h];exact hn h
theorem oX{b a:List Rat}(h:VF b a)(hb:tz b≠[])(hl:(tz b).length+(tz a).length≤50):lQ (cD b a).2.2 (-1) 1=true:=by
 have ha:tz a≠[]:=fun e=>by
  have:=h.2.2;rw [←ax,e] at this;exact absurd this (by decide)
 have hD:tz (dlD (tz b) (tz a))≠[]:=by
  unfold dlD;rw [dq];exact kZ (by rw [jd];exact mw (by rw [av];exact hb)) (by rw [jd];exact mw (by rw [av];exact ha))
 obtain ⟨n',e',c,hc,he,hn⟩:=Er (b:=tz b) (a:=tz a) (by rw [av];exact hb) (by rw [av];exact ha);obtain ⟨k,hk,hbig⟩:=BV hD hc he hn;have ht:=xX hk hbig;unfold cD;rw [if_pos h,if_neg hb,if_neg (by omega)];exact vz ht.1 ht.2
theorem zU{N D:List Rat}(hD:tz D≠[])(x:Rat):evV (aP N (bv N D)) x*evV D x=evV N x*evV (aP D (bv N D)) x:=by
 have hG:=Sg.gcd_spec N D;have hg:tz (bv N D)≠[]:=fun h0=>hD (Sg.ev_tznil.2 fun x=>by
  obtain ⟨q,-,h1⟩:=hG.2.1;rw [h1 x,Sg.ev_tznil.1 h0 x,nXz])
 have h1:=Sg.quo_exact hg hG.1 x;have h2:=Sg.quo_exact hg hG.2.1 x;generalize evV (aP N (bv N D)) x=n1 at *
 generalize evV (aP D (bv N D)) x=d1 at *
 generalize evV (bv N D) x=g at *
 rw [h1,h2];grind
theorem rZ(q:List Rat)(x:Rat):evV (ngV q) x=-evV q x:=by
 unfold ngV;rw [jC,Sg.ev_map];show -1*_=_;grind
theorem Ca{P:Prop}[Decidable P]{n q n' q':List Rat}{D N x:Rat}{s:Int}(hn:evV n x*D=N*evV q x)(hp:evV n' x*D=N*evV q' x):(if P then (s,n',q') else (s,n,q)).1=s∧evV (if P then (s,n',q') else (s,n,q)).2.1 x*D=N*evV (if P then (s,n',q') else (s,n,q)).2.2 x:=by
 by_cases h:P
 ·rw [if_pos h];exact ⟨rfl,hp⟩
 ·rw [if_neg h];exact ⟨rfl,hn⟩
theorem jO{b a:List Rat}(hb:tz b≠[])(ha:tz a≠[]):tz (dlD b a)≠[]:=by
 unfold dlD;rw [dq];exact kZ (by rw [jd];exact mw hb) (by rw [jd];exact mw ha)
theorem sG{b a:List Rat}(h:VF b a):tz a≠[]:=fun e=>by
 have:=h.2.2;rw [←ax,e] at this;exact absurd this (by decide)
theorem lF{b a:List Rat}(h:VF b a)(hb:tz b≠[])(hl:(tz b).length+(tz a).length≤50)(x:Rat):(cD b a).1=0∧evV (cD b a).2.1 x*evV (dlD (tz b) (tz a)) x=evV (dlN (tz b) (tz a)) x*evV (cD b a).2.2 x:=by
 have ha:=sG h;have hp:=zU (N:=dlN (tz b) (tz a)) (jO (b:=tz b) (a:=tz a) (by rw [av];exact hb) (by rw [av];exact ha)) x;unfold cD;rw [if_pos h,if_neg hb,if_neg (by omega)];refine Ca hp ?_;rw [rZ,rZ];grind
theorem r4(p q:List Rat)(x:Rat):evV (dlN p q) x=evV (ah (bF p) p) x*evV (ah q q) x-evV (ah (bF q) q) x*evV (ah p p) x:=by
 unfold dlN;rw [lz,Sg.ev_mul5,Sg.ev_mul5]
theorem oP(p q:List Rat)(x:Rat):evV (dlD p q) x=evV (ah p p) x*evV (ah q q) x:=by
 unfold dlD;rw [Sg.ev_mul5]
theorem AF(p q:List Rat)(x:Rat):evV (ah (bF (ag p q)) (ag p q)) x=evV (ah (bF p) p) x*evV (ah q q) x+evV (ah (bF q) q) x*evV (ah p p) x:=by
 have h:=dD (p:=ah (bF (ag p q)) (ag p q)) (q:=aS (ag (ah (bF p) p) (ah q q)) (ag (ah (bF q) q) (ah p p))) (c:=1) (fun n=>by rw [jE,Sg.seq_add5,Rat.one_mul]) x;rw [h,Sg.ev_add5,Sg.ev_mul5,Sg.ev_mul5,Rat.one_mul]
theorem AH(p q:List Rat)(x:Rat):evV (ah (ag p q) (ag p q)) x=evV (ah p p) x*evV (ah q q) x:=by
 rw [fQ,Sg.ev_mul5]
theorem Ep(b a h c:List Rat)(x:Rat):evV (dlN (ag b h) (ag a c)) x=evV (dlN b a) x*evV (dlD h c) x+evV (dlN h c) x*evV (dlD b a) x∧evV (dlD (ag b h) (ag a c)) x=evV (dlD b a) x*evV (dlD h c) x:=by
 rw [r4,r4,r4,oP,oP,oP,AF,AF,AH,AH];constructor <;> grind
theorem m7(p q:List Rat):ag (tz p) (tz q)=ag p q:=by
 unfold ag;simp only [av]
theorem Dm(p q:List Rat):tz (subV p q)=subV p q:=by
 unfold subV aS;exact av _
theorem xZ{b a h c:List Rat}(h1:VF b a)(h2:VF h c)(h3:VF (ag b h) (ag a c))(hb:tz b≠[])(hh:tz h≠[])(hs:ag b h≠[])
 (l1:(tz b).length+(tz a).length≤50)(l2:(tz h).length+(tz c).length≤50)(l3:(ag b h).length+(ag a c).length≤50) :
  subV (ag (cD (ag b h) (ag a c)).2.1 (ag (cD b a).2.2 (cD h c).2.2))
   (ag (cD (ag b h) (ag a c)).2.2 (aS (ag (cD b a).2.1 (cD h c).2.2) (ag (cD h c).2.1 (cD b a).2.2)))=[]:=by
 have e1:=fun x=>(lF h1 hb l1 x).2
 have e2:=fun x=>(lF h2 hh l2 x).2
 have e3:=fun x=>(lF h3 (by rw [dq];exact hs) (by rw [dq,dq];exact l3) x).2
 rw [dq,dq] at e3;have s:=Ep (tz b) (tz a) (tz h) (tz c);rw [m7,m7] at s;have d1:=jO (b:=tz b) (a:=tz a) (by rw [av];exact hb) (by rw [av];exact sG h1);have d2:=jO (b:=tz h) (a:=tz c) (by rw [av];exact hh) (by rw [av];exact sG h2);obtain ⟨X,hX⟩:∃ X,X=cD b a:=⟨_,rfl⟩;obtain ⟨Y,hY⟩:∃ Y,Y=cD h c:=⟨_,rfl⟩;obtain ⟨Z,hZ⟩:∃ Z,Z=cD (ag b h) (ag a c):=⟨_,rfl⟩;rw [←hX] at e1 ⊢;rw [←hY] at e2 ⊢;rw [←hZ] at e3 ⊢;have key:∀ x,evV (subV (ag Z.2.1 (ag X.2.2 Y.2.2)) (ag Z.2.2 (aS (ag X.2.1 Y.2.2) (ag Y.2.1 X.2.2)))) x=evV [] x:=by
  refine de d1 fun x=>?_
  have hc:=de d2 (a:=ag (dlD (tz b) (tz a)) (subV (ag Z.2.1 (ag X.2.2 Y.2.2)) (ag Z.2.2 (aS (ag X.2.1 Y.2.2) (ag Y.2.1 X.2.2))))) (b:=[]) (fun x=>?_) x
  ·rw [Sg.ev_mul5] at hc;rw [hc];show (0:Rat)=_*0;grind
  rw [Sg.ev_mul5,lz,Sg.ev_mul5,Sg.ev_mul5,Sg.ev_mul5,Sg.ev_add5,Sg.ev_mul5,Sg.ev_mul5];have f1:=e1 x;have f2:=e2 x;have f3:=e3 x;rw [(s x).1,(s x).2] at f3;show _=_*(0:Rat);generalize evV (dlD (tz b) (tz a)) x=Dx at *
  generalize evV (dlD (tz h) (tz c)) x=Dy at *
  generalize evV (dlN (tz b) (tz a)) x=Nx at *
  generalize evV (dlN (tz h) (tz c)) x=Ny at *
  generalize evV X.2.1 x=xn at *
  generalize evV X.2.2 x=xd at *
  generalize evV Y.2.1 x=yn at *
  generalize evV Y.2.2 x=yd at *
  generalize evV Z.2.1 x=zn at *
  generalize evV Z.2.2 x=zd at *
  have g1:zn*(Dx*Dy)*(xd*yd)=zd*((Nx*xd)*(Dy*yd)+(Ny*yd)*(Dx*xd)):=by rw [f3];grind
  rw [←f1,←f2] at g1;grind
 rw [←Dm];exact Sg.ev_tznil.2 fun x=>key x
theorem DX(x:Rat):evV (ah (bF [1]) [1]) x=0:=by
 have h:=dD (p:=ah (bF [1]) [1]) (q:=ah [1] [1]) (c:=(((0:Nat):Int):Rat)) (oV (h:=[1]) (m:=0) (by decide) (fun k hk=>by
  have:k=0:=by omega
  subst this;rfl)) x
 rw [h];show (0:Rat)*_=0;grind
theorem tO{h:List Rat}{m:Nat}(hv:VF h [1])(hz:tz h≠[])(hl:(tz h).length+1≤50)(hm:h.length≤2*m+1)(hs:∀ k,k≤2*m→seq h k=seq h (2*m-k))(x:Rat) :
  evV (cD h [1]).2.1 x=(((m:Nat):Int):Rat)*evV (cD h [1]).2.2 x:=by
 have t1:tz [(1:Rat)]=[1]:=by decide
 have e:=fun x=>(lF hv hz (by rw [t1];exact hl) x).2
 rw [t1] at e;have d:=jO (b:=tz h) (a:=[1]) (by rw [av];exact hz) (by rw [t1];decide);have hT:∀ k,seq (tz h) k=seq h k:=fun k=>ax h k
 have s1:∀ x,evV (ah (bF (tz h)) (tz h)) x=(((m:Nat):Int):Rat)*evV (ah (tz h) (tz h)) x:=fun x =>
  dD (oV (h:=tz h) (m:=m) (nXe (af h) hm) (fun k hk=>by rw [hT,hT];exact hs k hk)) x
 obtain ⟨Y,hY⟩:∃ Y,Y=cD h [1]:=⟨_,rfl⟩;rw [←hY] at e ⊢;obtain ⟨M,hM⟩:∃ M:Rat,M=(((m:Nat):Int):Rat):=⟨_,rfl⟩;rw [←hM] at s1 ⊢;have em:∀ x,evV (Y.2.2.map (·*M)) x=M*evV Y.2.2 x:=fun x=>Sg.ev_map _ _ _
 rw [←em];refine de d (fun x=>?_) x;have f:=e x;rw [r4,DX,s1,nXz] at f;rw [em,oP];rw [oP] at f;generalize evV (ah (tz h) (tz h)) x=A at *
 generalize evV (ah [1] [1]) x=B at *
 generalize evV Y.2.1 x=yn at *
 generalize evV Y.2.2 x=yd at *
 grind
theorem yf{p q:List Rat}(h:subV p q=[]):go p q=[]:=by
 have e:tz (go p q)=go p q:=by unfold go aS;exact av _
 rw [←e];refine Sg.ev_tznil.2 fun x=>?_
 have h1:=lz p q x;rw [h] at h1;have h2:(0:Rat)=evV p x-evV q x:=h1;have h3:evV (go p q) x=evV p x+evV q x*((-1:Int):Rat):=by
  unfold go aK;rw [Sg.ev_add5,jC,Sg.ev_map,nYb]
 have h4:((-1:Int):Rat)=-1:=rfl;rw [h3,h4];grind
theorem xY{h:List Rat}{m:Nat}(hv:VF h [1])(hz:tz h≠[])(hl:(tz h).length+1≤50)(hm:h.length≤2*m+1)(hs:∀ k,k≤2*m→seq h k=seq h (2*m-k)) :
  tz (cD h [1]).2.1=tz (aK (cD h [1]).2.2 (((m:Nat):Int):Rat)):=by
 refine dY (Sg.ev_inj fun x=>?_);rw [tO hv hz hl hm hs x];unfold aK;rw [jC,Sg.ev_map]
theorem pI{p:List Rat}{u v:Rat}(h:lQ p u v=true):tz p≠[]:=fun e=>by
 unfold lQ at h;rw [if_pos e] at h;exact absurd h (by decide)
theorem ow(p q:List Rat):(tz (ag p q)).length≤(tz p).length+(tz q).length:=by
 rw [dq,←m7];exact rL _ _
theorem oU{b a h:List Rat}{m:Nat}(hv:VF b a)(hb:tz b≠[])(hn:tz h≠[])(lb:(tz b).length≤10)(la:(tz a).length≤10)(hm:m≤5)(hl:h.length≤2*m+1)(hs:∀ k,k≤2*m→seq h k=seq h (2*m-k)) :
  VF h [1]∧xE b a h [1]=(0,ag b h,ag a [1])∧(cD b a).1=0∧(cD h [1]).1=0∧(cD (ag b h) (ag a [1])).1=0∧lQ (cD b a).2.2 (-1) 1=true∧(cD h [1]).2.2≠[] ∧
  go (ag (cD (ag b h) (ag a [1])).2.1 (ag (cD b a).2.2 (cD h [1]).2.2))
   (ag (cD (ag b h) (ag a [1])).2.2 (aS (ag (cD b a).2.1 (cD h [1]).2.2) (ag (cD h [1]).2.1 (cD b a).2.2)))=[] ∧
  tz (cD h [1]).2.1=tz (aK (cD h [1]).2.2 (((m:Nat):Int):Rat)):=by
 have t1:(tz [(1:Rat)]).length=1:=by decide
 have lh:(tz h).length≤11:=nXe (af h) (by omega);have l3:=ow b h;have l4:=ow a [1];rw [t1] at l4;have v2:VF h [1]:=⟨by omega,by omega,rfl⟩;have v3:VF (ag b h) (ag a [1]):=⟨by omega,by omega,by rw [uZ,hv.2.2];exact Rat.mul_one 1⟩;have hz:=kZ hb hn;have hd:=oX hv hb (by omega);have hy:=oX v2 hn (by omega);refine ⟨v2,?_,(lF hv hb (by omega) 0).1,(lF v2 hn (by omega) 0).1,(lF v3 (by rw [dq];exact hz) (by omega) 0).1,hd,fun e=>pI hy (by rw [e];rfl),
  yf (xZ hv v2 v3 hb hn hz (by omega) (by omega) (by rw [dq] at l3 l4;omega)),xY v2 hn (by omega) hl hs⟩
 unfold xE xJ;rw [if_pos ⟨hv,v2⟩,if_pos ⟨by omega,by omega⟩]
theorem A6(c:List Rat)(m k:Nat)(hk:k≤2*m):seq (tz (jU c m)) k=seq (tz (jU c m)) (2*m-k):=by
 show (tz (jU c m)).getD k 0=(tz (jU c m)).getD (2*m-k) 0;rw [ax,ax];unfold jU;rw [bS,bS,if_pos (by omega),if_pos (by omega)];have e:dst m k=dst m (2*m-k):=by unfold dst;split <;> split <;> omega
 unfold qL;rw [e]
theorem Dl(c:List Rat)(m:Nat):(tz (jU c m)).length≤2*m+1:=by
 refine nXe (af _) ?_;unfold jU;rw [nXk,nXs];exact nXd _
theorem Fp{p:List Rat}(h:tz p≠[]):tz (tbV (tz p).length (tz p))≠[]:=by
 rw [Dj (av p)];intro e;have h1:=jp (tz p).length (tz p);rw [e] at h1;exact h (List.eq_nil_of_length_eq_zero h1.symm)
theorem Dk{c:List Rat}{m:Nat}(hh:xK≠0)(hc:tz c≠[])(hl:c.length≤m+1):tz (jU c m)≠[]:=by
 intro h;refine hc (?_:tz c=tz []);refine dY fun d=>?_
 have h0:∀ k,(jU c m).getD k 0=0:=fun k=>by rw [←ax,h];rfl
 rcases Nat.lt_or_ge m d with h1|h1
 ·show c.getD d 0=0;exact aG (by omega)
 ·have h2:=h0 (m+d);unfold jU at h2;rw [bS,if_pos (by omega)] at h2;have e:dst m (m+d)=d:=by unfold dst;rw [if_neg (by omega)];omega
  unfold qL at h2;rw [e] at h2;show c.getD d 0=0;split at h2
  ·rename_i h3;rw [h3];exact h2
  ·rcases nXq.1 h2 with h3|h3
   ·exact h3
   ·exact absurd h3 hh
end Go.Proofs.YtohahgiidooijaaGreat
