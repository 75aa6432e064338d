import Derived.Test.YtafgmcimcbhhjaaGreatQJK7
set_option linter.unusedVariables false
set_option maxHeartbeats 30000000
set_option maxRecDepth 8000
namespace Go.Proofs.YtafgmcimcbhhjaaGreat
open Go.RowKit Go.Front Go.Num Stab
attribute [local go_sem] XW.cell XW.frozen
theorem lU(ao:Option Addr)(n cap:Nat)(l:List Rat)(S:Nat)(w:World)(h:bw w ⟨ao,n,cap⟩ l)(hn:n≤1000000)(hS:S≤16777216)(hz:SzL S l) :
  au 187 [.slice ao n cap] w SH.v (fun x w'=>bw w' x (bq l)):=by
 have HX:=Hi (Ext.refl w);have LP:=Hi h.lin;have hle:=h.le;have hmx:=h.max;have Hlen:=Hi h.len;simp only at hle hmx Hlen;have HSz:=Hi hz;clear h hz;unfold au;go_enter Tryz.func187,Tryz.ntmps187
 go_wp2_with fail
 refine cM (fi ao n cap l _ (LP.out.can.raw HSz.out zo)) fun x2 w2 hE G2=>?_
 refine mV2 hE ?_ HX LP;clear HX LP;intro HX LP;have hs_w2:=hE.size;obtain ⟨q1,q2⟩:=G2.out;obtain ⟨P,hP⟩:∃ P,P=(tz l).length:=⟨_,rfl⟩;obtain ⟨p,hp⟩:∃ p,p=tz l:=⟨_,rfl⟩;have LQ:Hid (LIn w2 ⟨ao,P,cap⟩ p 0 w.heap.size):=Hi (by rw [hp,q1,hP];exact LP.out.take q2);have HPl:Hid (p.length=P):=Hi (by rw [hp,hP]);have HTZ:Hid (p=tz l):=Hi hp;have HSp:Hid (SzL S p):=Hi (fun x hx=>HSz.out x (by rw [hp,q1] at hx;exact List.mem_of_mem_take hx));have hPn:P≤n:=zo;rw [←hP];clear hP hp q1 q2 G2 HSz Hlen;clear LP;by_cases h0:P=0
 case pos =>
  subst h0;have HV:Hid (bq l=[]):=Hi (by unfold bq;rw [if_pos (by rw [←HTZ.out];exact nXj.1 HPl.out)]);go_wp2
  go_ret
  exact ⟨⟨none,0,0⟩,rfl,HX.out,by rw [HV.out];exact (eL.nil 0 _).can⟩
 obtain ⟨m,rfl⟩:∃ m,P=m+1:=⟨P-1,zo⟩;have hz0:((m:Int)+1 == 0)=false:=by rw [nXs];omega
 have Hne:Hid (tz l≠[]):=Hi (by rw [←HTZ.out];intro h;have:=HPl.out;rw [h] at this;simp at this);have HL:Hid (aJ (tz l)=p.getD m 0):=Hi (by unfold aJ;rw [←HTZ.out,HPl.out];rfl);have HL0:Hid (p.getD m 0≠0):=Hi (by rw [←HL.out];exact bT Hne.out);obtain ⟨b,off,r,hao,hbl,⟨hc1,hc2,hc3⟩,hPc⟩:=LQ.out.celx (k:=m) zo;obtain ⟨rneg,ra,rn,rc,rb,rm,rd⟩:=r;simp only at hc1 hc2 hc3;have HC:=Hi hPc;clear hPc h0;subst hao;have Zc:Hid (Sz S (p.getD m 0)):=Hi (HSp.out.at (by rw [HPl.out];omega))
 go_upto_region 4 with fail
 refine bG [(12,10)] _ (by simp only [fx,gR,List.push_toArray,List.cons_append,List.nil_append];exact rfl) (by intro c a d v w h;cases d <;> exact h) 12 (fun opIx=>match opIx with
  | 0=>sR (((1:Int):Rat))
  | 7=>.spec (RH) (default) (fun s=>.tuple #[s.v,.int .i64 0]) (fun x w'=>aB w' x (((1:Int):Rat) / p.getD m 0))
  | 11=>.alloc 34 #[.bool false,.slice none 0 0,.slice none 0 0]
  | _=>.quiet) (fun|7=>[0]|_=>[]) kZ kZ kZ (fun w0 he0 hz0 hc0 hf0=>?_)
 replace he0:=Hi he0;simp only [pT];refine qQ ?_;refine wps he0 (fun w1 hW hG=>?_) fun x20=>?_
 ·exact spc [.int .i64 1] Tryz.func84 (d9 1 _ dZ dZ)
 refine qZ ?_;refine wps he0 (fun w1 hW hG=>?_) fun x21=>?_
 ·have g20:=gS (hG 0 dZ);exact spc [x20.v,RH.v ⟨rneg,ra,rn,rc,rb,rm,rd⟩] Tryz.func121 (cF x20 _ _ _ _ (g20.raw (Sz.int dZ) dZ) ((HC.out.ext hW).raw Zc.out zo) HL0.out)
 refine qZ ?_;refine aW rfl rfl (fun w=>by simp [execOp,go_sem,ptr]) (fun b4 hb4 hl4=>?_);refine qZ ?_;refine aq ?_;intro w4 hI;have hE:=he0.out.trans hI.ext;have G20:=gT (hI.facts 0);have G21:=gT (hI.facts 7);have A4:Hid (w4.heap[b4]?=some (.cells #[.bool false,.slice none 0 0,.slice none 0 0] 34 (0,0))):=hI.facts 11;rw [hz0] at hl4;clear hI he0 hz0 hc0 hf0;refine mV2 hE ?_ HX LQ;clear HX LQ;intro HX LQ;have hs_w4:=hE.size;replace b_A4:=bX3 A4;simp only [pD,ptr];clear hc1 hc2 hc3 hbl;have ZI:Hid (Sz (1+S) (((1:Int):Rat) / p.getD m 0)):=Hi ((Sz.int dZ).div Zc.out);have HZ8:Hid (SzL 33554432 p):=Hi (fun x hx=>(HSp.out x hx).mono zo)
 go_upto_region 5 with fail
 refine bi A4.out rfl ?_;intro w5 T;replace HX:=Hi (T.ext HX.out zo);replace LQ:=Hi (LQ.out.put T zo);replace G20:=Hi (G20.out.keep T.keep);replace A4:=Hi (T.bx);replace G21:=Hi (G21.out.keep T.keep);have hs_w5:=nle T.size;have hr_w5:=nle T.size.symm;clear T;replace b_A4:=bX3 A4
 go_wp2_with fail
 refine cM (jE (some ⟨b,off,none⟩) (m+1) cap p x21 (((1:Int):Rat) / p.getD m 0) _ (LQ.out.can.raw HSp.out zo) (G21.out.raw ZI.out zo) zo HZ8.out (ZI.out.mono zo)) fun x6 w6 hE G6=>?_
 refine mV5 hE ?_ HX LQ G20 A4 G21;clear HX LQ G20 A4 G21;intro HX LQ G20 A4 G21;have hs_w6:=hE.size;replace b_A4:=bX3 A4;go_wp2
 go_ret
 exact ⟨x6,rfl,HX.out,by show bw w6 x6 (bq l);unfold bq;rw [if_neg Hne.out,HL.out,←HTZ.out];exact G6.out.can⟩
abbrev QT(x:SH×SH):Value:=.tuple #[x.1.v,x.2.v,.int .i64 0]
def RIn(w:World)(s:SH)(l:List Rat)(N:Nat):Prop:=cD w s l∧(s.n=0∨∃ L o,s.a=some ⟨L,o,none⟩∧L<N)
theorem RIn.of{w:World}{s:SH}{l:List Rat}(h:cD w s l):RIn w s l w.heap.size:=by
 refine ⟨h,?_⟩;obtain ⟨rs,h1,-⟩:=h;rcases h1.at' with h0|⟨b,off,e,hc⟩
 ·exact Or.inl h0
 ·rcases Nat.eq_zero_or_pos s.n with h0|h0
  ·exact Or.inl h0
  ·exact Or.inr ⟨b,off,e,nXq _ _ (hc 0 h0).1⟩
theorem RIn.raw{w:World}{s:SH}{l:List Rat}{N:Nat}(h:RIn w s l N):cD w s l:=h.1
theorem RIn.ext{w w':World}{s:SH}{l:List Rat}{N:Nat}(h:RIn w s l N)(he:Ext w w'):RIn w' s l N:=⟨h.1.ext he,h.2⟩
instance {w w':World} {s:SH} {l:List Rat} {N:Nat}:Go.Front.Mv w w' (RIn w s l N) (RIn w' s l N):=⟨fun e h=>RIn.ext h e⟩

theorem RIn.put{w1 w2:World}{s:SH}{l:List Rat}{N b:Nat}{T:TypeId}{cs:Array Value}(h:RIn w1 s l N)(T2:dK w1 b T cs w2)(hb:N≤b):RIn w2 s l N:=by
 refine ⟨?_,h.2⟩;obtain ⟨⟨rs,h1,h2⟩,h3⟩:=h;refine ⟨rs,⟨h1.len,h1.le,h1.max,?_⟩,h2.rawkeep T2.keep⟩;rcases h1.at' with h0|⟨c,off,e,hc⟩
 ·exact Or.inl h0
 ·rcases h3 with h0|⟨L,o,e2,hL⟩
  ·exact Or.inl h0
  ·have hcb:c≠b:=by
    rw [e] at e2;simp only [Option.some.injEq,Addr.mk.injEq] at e2;omega
   exact Or.inr ⟨c,off,e,fun k hk=>⟨T2.cell hcb (hc k hk).1,T2.cell hcb (hc k hk).2.1,T2.cell hcb (hc k hk).2.2⟩⟩
theorem o9(pa qa:Option Addr)(P pc Q qc:Nat)(p q:List Rat)(S U D E:Nat)(w:World)(hp:cD w ⟨pa,P,pc⟩ p)(hq:bw w ⟨qa,Q,qc⟩ q)(hP:P≤100000)(hQ:Q≤100000)
 (hS:1≤S)(hU:1≤U)(hD:0<D)(hD2:D<W32 ^ S)(hE:0<E)(hE2:E<W32 ^ U)(hpf:∀ x ∈ p,Fr S D x)(hqf:∀ x ∈ q,Fr U E x)(hq0:tz q≠[])(hsz:S+P*(U+1)≤25000000)(hSU:S+U≤8000000) :
  au 186 [.slice pa P pc,.slice qa Q qc] w QT (fun x w'=>bw w' x.1 (bD p q)∧bw w' x.2 (bB p q)):=by
 have HX:=Hi (Ext.refl w);have LP:=Hi (RIn.of hp);have LQ:=Hi hq.lin;have HPF:=Hi hpf;have HQF:=Hi hqf;have HQ0:=Hi hq0;have HPl:Hid (p.length=P):=Hi hp.len;have HQl:Hid (q.length=Q):=Hi hq.len;clear hp hq hpf hqf hq0;unfold au;go_enter Tryz.func186,Tryz.ntmps186
 go_wp2_with fail
 refine cM (jC pa P pc p S D _ LP.out.raw zo hS zo hD hD2 HPF.out) fun x1 w1 hE G1=>?_
 refine mV3 hE ?_ HX LP LQ;clear HX LP LQ;intro HX LP LQ;have hs_w1:=hE.size;clear hE;obtain ⟨xs,xa⟩:=x1;have HXS:=Hi G1.out.1;have HXA:=Hi G1.out.2;clear G1;simp only [MT] at *
 go_upto_region 2 with fail
 refine nmA ?_;intro w2 hE B7 hz_w2 hr_w2;refine mV5 hE ?_ HX LP LQ HXS HXA;clear HX LP LQ HXS HXA;intro HX LP LQ HXS HXA;have hs_w2:=hE.size;clear hE;replace b_B7:=bX3 B7
 go_wp2_with fail
 refine cM (jD qa Q qc q U E _ LQ.out.can zo hU zo hE hE2 HQF.out) fun x3 w3 hE G3=>?_
 refine mV6 hE ?_ B7 HX LP LQ HXS HXA;clear B7 HX LP LQ HXS HXA;intro B7 HX LP LQ HXS HXA;have hs_w3:=hE.size;clear hE;replace b_B7:=bX3 B7;obtain ⟨ys,ya⟩:=x3;have HYS:=Hi G3.out.1;have HYA:=Hi G3.out.2;clear G3;simp only [MT] at *
 clear LP;clear LQ
 go_upto_region 3 with fail
 refine nmA ?_;intro w4 hE B9 hz_w4 hr_w4;refine mV6 hE ?_ B7 HX HXS HXA HYS HYA;clear B7 HX HXS HXA HYS HYA;intro B7 HX HXS HXA HYS HYA;have hs_w4:=hE.size;clear hE;replace b_B7:=bX3 B7;replace b_B9:=bX3 B9;obtain ⟨La,hLa,rfl,hra⟩:=HXA.out;obtain ⟨Lb,hLb,rfl,hrb⟩:=HYA.out;have HA:=Hi hra;have HB:=Hi hrb;obtain ⟨N,hN⟩:∃ N,N=(ar p).length:=⟨_,rfl⟩;obtain ⟨m,hm⟩:∃ m,(ar q).length=m+1:=⟨(tz q).length-1,by rw [aC];have:=nYg.2 HQ0.out;omega⟩;have hNP:N≤P:=by rw [hN,aC,←HPl.out];exact ah p
 have hmQ:m+1≤Q:=by rw [←hm,aC,←HQl.out];exact ah q
 have HN:=Hi hN;have HM:=Hi hm;rw [←hN,hm];clear hra hrb hN hm hLa hLb;clear HXA;clear HYA;have hz0:((m:Int)+1 == 0)=false:=by rw [nXs];omega
 have hmul:(N-m)*(U+1)≤P*(U+1):=nXh _ zo
 go_wp2_with fail
 refine cM (kL (some ⟨La,0,none⟩) (some ⟨Lb,0,none⟩) N N m (m+1) (ar p) (ar q) S U _ (HA.out.can HN.out.symm (nXe _) zo) (HB.out.can HM.out (nXe _) zo) (cY (fun x hx=>HPF.out x (eB hx)) hD) (cY (fun x hx=>HQF.out x (eB hx)) hE) hS hU (aX p) (aX q) zo zo zo zo) fun x5 w5 hE G5=>?_
 refine mV7 hE ?_ B9 B7 HX HXS HYS HA HB;clear B9 B7 HX HXS HYS HA HB;intro B9 B7 HX HXS HYS HA HB;have hs_w5:=hE.size;clear hE;replace b_B7:=bX3 B7;replace b_B9:=bX3 B9;obtain ⟨ss,rr,ff⟩:=x5;obtain ⟨s,r,f,hdv,h1,h2,h3⟩:=G5.out;have HDv:=Hi hdv;have HS1:=Hi h1.lin;have HR1:=Hi h2.lin;have HF1:=Hi h3;have hw5:w5.heap.size=w5.heap.size:=rfl;clear h1 h2 h3 G5 hdv hw5;simp only [DT] at *
 clear HA;clear HB
 go_upto_region 6 with fail
 refine nmA ?_;intro w6 hE B13 hz_w6 hr_w6;refine mV8 hE ?_ B9 B7 HX HXS HYS HS1 HR1 HF1;clear B9 B7 HX HXS HYS HS1 HR1 HF1;intro B9 B7 HX HXS HYS HS1 HR1 HF1;have hs_w6:=hE.size;clear hE;replace b_B7:=bX3 B7;replace b_B9:=bX3 B9;replace b_B13:=bX3 B13;have ZS:Hid (Sz S (aK p)):=Hi ((ir (fun x hx=>HPF.out x (eB hx))).sz hS hD hD2);have ZU:Hid (Sz U (aK q)):=Hi ((ir (fun x hx=>HQF.out x (eB hx))).sz hU hE hE2);obtain ⟨d0,d1,d2,d3,d4,d5,d6,d7⟩:=HDv.out;have hbb:(N-m)*(U+1)=((ar p).length+1-(ar q).length)*(U+1):=by rw [←HN.out,HM.out,show N+1-(m+1)=N-m by omega]
 have hbb2:((ar p).length+1-(ar q).length)*U≤((ar p).length+1-(ar q).length)*(U+1):=nXg _ zo;have ZF:Hid (Sz 25000001 f):=Hi ((d1.mono zo).sz zo);have ZSS:Hid (SzL 25000000 s):=Hi (fun x hx=>((d2 x hx).mono zo).sz zo);have ZRR:Hid (SzL 25000000 r):=Hi (fun x hx=>((d3 x hx).mono zo).sz zo);have HF0:=Hi d0;have HPL:Hid (tz (s.map (·*(aK p / f / aK q)))=bD p q∧tz (r.map (·*(aK p / f)))=bB p q):=Hi (xN HQ0.out d0 d5 d7);have hsn:ss.n≤1000000:=by have:=HS1.out.len;have h8:=HN.out;omega
 have hrn:rr.n≤1000000:=by have:=HR1.out.len;rw [HM.out] at d5;omega
 clear d0 d1 d2 d3 d4 d5 d6 d7 hbb hbb2 HDv
 go_wp2_with fail
 refine cM (cF xs ff (aK p) f _ (HXS.out.raw ZS.out zo) (HF1.out.raw ZF.out zo) HF0.out) fun x7 w7 hE G7=>?_
 refine mV8 hE ?_ B13 B9 B7 HX HXS HYS HS1 HR1;clear B13 B9 B7 HX HXS HYS HS1 HR1;intro B13 B9 B7 HX HXS HYS HS1 HR1;replace HF1:=mV hE HF1;have hs_w7:=hE.size;clear hE;replace b_B7:=bX3 B7;replace b_B9:=bX3 B9;replace b_B13:=bX3 B13
 go_upto_region 7 with fail
 refine nmA ?_;intro w8 hE B14 hz_w8 hr_w8;refine mV8 hE ?_ G7 B13 B9 B7 HX HXS HYS HS1;clear G7 B13 B9 B7 HX HXS HYS HS1;intro G7 B13 B9 B7 HX HXS HYS HS1;refine mV2 hE ?_ HR1 HF1;clear HR1 HF1;intro HR1 HF1;have hs_w8:=hE.size;clear hE;replace b_B7:=bX3 B7;replace b_B9:=bX3 B9;replace b_B13:=bX3 B13;replace b_B14:=bX3 B14;have Z7:Hid (Sz (S+25000001) (aK p / f)):=Hi (ZS.out.div ZF.out)
 go_wp2_with fail
 refine cM (cF x7 ys (aK p / f) (aK q) _ (G7.out.raw Z7.out zo) (HYS.out.raw ZU.out zo) (oX HQ0.out)) fun x9 w9 hE G9=>?_
 refine mV8 hE ?_ B14 G7 B13 B9 B7 HX HXS HYS;clear B14 G7 B13 B9 B7 HX HXS HYS;intro B14 G7 B13 B9 B7 HX HXS HYS;refine mV3 hE ?_ HS1 HR1 HF1;clear HS1 HR1 HF1;intro HS1 HR1 HF1;have hs_w9:=hE.size;clear hE;replace b_B7:=bX3 B7;replace b_B9:=bX3 B9;replace b_B13:=bX3 B13;replace b_B14:=bX3 B14
 go_upto_region 8 with fail
 refine nmA ?_;intro w10 hE B16 hz_w10 hr_w10;refine mV8 hE ?_ G9 B14 G7 B13 B9 B7 HX HXS;clear G9 B14 G7 B13 B9 B7 HX HXS;intro G9 B14 G7 B13 B9 B7 HX HXS;refine mV4 hE ?_ HYS HS1 HR1 HF1;clear HYS HS1 HR1 HF1;intro HYS HS1 HR1 HF1;have hs_w10:=hE.size;clear hE;replace b_B7:=bX3 B7;replace b_B9:=bX3 B9;replace b_B13:=bX3 B13;replace b_B14:=bX3 B14;replace b_B16:=bX3 B16;have Z9:Hid (Sz (S+25000001+U) (aK p / f / aK q)):=Hi (Z7.out.div ZU.out);obtain ⟨sa,sn,sc⟩:=ss;obtain ⟨ra,rn,rc⟩:=rr;simp only at hsn hrn;simp only [SH.v];refine wpG 6 (fun opIx=>match opIx with
  | 2=>.spec (SH) (default) (SH.v) (fun x w'=>bw w' x (tz (s.map (·*(aK p / f / aK q)))))
  | 5=>.spec (SH) (default) (SH.v) (fun x w'=>bw w' x (tz (r.map (·*(aK p / f)))))
  | _=>.quiet) (fun _=>[]) fun w0 he0 hz0 hc0 hf0=>?_
 refine wps he0 (fun w1 hW hG=>?_) fun x20=>?_
 ·exact spc [.slice sa sn sc,x9.v] Tryz.func102 ((jE sa sn sc s x9 _ _ ((HS1.out.ext hW).can.raw ZSS.out dZ) ((G9.out.ext hW).raw Z9.out zo) zo (ZSS.out.mono dZ) (Z9.out.mono zo)).weak (fun _ _ _ h=>h.can))
 refine qZ ?_;refine wps he0 (fun w1 hW hG=>?_) fun x21=>?_
 ·exact spc [.slice ra rn rc,x7.v] Tryz.func102 ((jE ra rn rc r x7 _ _ ((HR1.out.ext hW).can.raw ZRR.out dZ) ((G7.out.ext hW).raw Z7.out zo) zo (ZRR.out.mono dZ) (Z7.out.mono zo)).weak (fun _ _ _ h=>h.can))
 refine qZ ?_;refine aq ?_;intro w11 hI;have hE:=he0.out.trans hI.ext;have G20:=gT (hI.facts 2);have G21:=gT (hI.facts 5);clear hI he0 hz0 hc0 hf0;refine mV8 hE ?_ B16 B14 B13 B9 B7 HX HXS HYS;clear B16 B14 B13 B9 B7 HX HXS HYS;intro B16 B14 B13 B9 B7 HX HXS HYS;refine mV5 hE ?_ HF1 HS1 G9 HR1 G7;clear HF1 HS1 G9 HR1 G7;intro HF1 HS1 G9 HR1 G7;have hs_w11:=hE.size;clear hE;replace b_B7:=bX3 B7;replace b_B9:=bX3 B9;replace b_B13:=bX3 B13;replace b_B14:=bX3 B14;replace b_B16:=bX3 B16;simp only [pD];go_wp2;exact nXa (v:=QT (x20,x21)) (by simp [results,Tryz.results186,go_sem,QT]) rfl ⟨(x20,x21),rfl,HX.out,by rw [←HPL.out.1];exact G20.out,by rw [←HPL.out.2];exact G21.out⟩
theorem qw(pa qa:Option Addr)(P pc Q qc:Nat)(p q:List Rat)(S D E:Nat)(w:World)(hp:cD w ⟨pa,P,pc⟩ p)(hq:bw w ⟨qa,Q,qc⟩ q)(hP:P≤100000)(hQ:Q≤100000)
 (hS:1≤S)(hD:0<D)(hD2:D<W32 ^ S)(hE:0<E)(hE2:E<W32 ^ S)(hpf:∀ x ∈ p,Fr S D x)(hqf:∀ x ∈ q,Fr S E x)(K:Nat)(hsz:GZ K S p q)(hK:K≤16777216) :
  au 149 [.slice pa P pc,.slice qa Q qc] w SH.v (fun x w'=>bw w' x (bN p q)∧GcR K (bN p q)):=by
 have HX:=Hi (Ext.refl w);have LP:=Hi (RIn.of hp);have LQ:=Hi hq.lin;have HPF:=Hi hpf;have HQF:=Hi hqf;obtain ⟨X0,hX0⟩:=GcI.start hS hD hE hpf hqf hsz (by have:=hp.len;simp only at this;omega) (by have:=hq.len;simp only at this;omega);have hSs:S+1≤16777216:=by
  have h1:=hX0.small;obtain ⟨X1,h2,h3⟩:=hsz;have:=h3.small;omega
 have hlp:(ar p).length≤P:=by have:=hp.len;have h2:=ah p;rw [aC];simp only at this;omega
 have hlq:(ar q).length≤Q:=by have:=hq.len;have h2:=ah q;rw [aC];simp only at this;omega
 have HG:=Hi hX0;clear hp hq hpf hqf hsz hX0;unfold au;go_enter Tryz.func149,Tryz.ntmps149
 go_wp2_with fail
 refine cM (jC pa P pc p S D _ LP.out.raw zo hS zo hD hD2 HPF.out) fun x1 w1 hE G1=>?_
 refine mV3 hE ?_ HX LP LQ;clear HX LP LQ;intro HX LP LQ;have hs_w1:=hE.size;clear hE;obtain ⟨xs,xa⟩:=x1;have HXA:=Hi G1.out.2;clear G1;simp only [MT] at *
 go_upto_region 2 with fail
 refine nmA ?_;intro w2 hE B7 hz_w2 hr_w2;refine mV4 hE ?_ HX LP LQ HXA;clear HX LP LQ HXA;intro HX LP LQ HXA;have hs_w2:=hE.size;clear hE;replace b_B7:=bX3 B7
 go_wp2_with fail
 refine cM (jD qa Q qc q S E _ LQ.out.can zo hS zo hE hE2 HQF.out) fun x3 w3 hE G3=>?_
 refine mV5 hE ?_ B7 HX LP LQ HXA;clear B7 HX LP LQ HXA;intro B7 HX LP LQ HXA;have hs_w3:=hE.size;clear hE;replace b_B7:=bX3 B7;obtain ⟨ys,ya⟩:=x3;have HYA:=Hi G3.out.2;clear G3;simp only [MT] at *
 clear LP;clear LQ
 (try clear b_B7);clear B7
 go_wp2;refine nmA ?_;intro w4 hE B9 hz_w4 hr_w4;refine mV3 hE ?_ HX HXA HYA;clear HX HXA HYA;intro HX HXA HYA;have hs_w4:=hE.size;clear hE;replace b_B9:=bX3 B9;obtain ⟨La,hLa,rfl,hra⟩:=HXA.out;obtain ⟨Lb,hLb,rfl,hrb⟩:=HYA.out;have HA:=Hi (hra.can rfl (nXe _) zo);have HB:=Hi (hrb.can rfl (nXe _) zo);clear hra hrb hLa hLb HXA HYA B9 b_B9
 go_loopg [6,8] (ar q).length (fun g u v wr=>∃ (x y:SH) (a b:List Rat) (X:Nat),u=x.v∧v=y.v∧b.length≤g∧Ext w wr∧bw wr x a∧bw wr y b∧GcI K p q a b X)
 case atStart=>exact ⟨_,_,_,_,X0,rfl,rfl,nXe _,HX.out,HA.out,HB.out,HG.out⟩
 case round =>
  obtain ⟨⟨xa,xn,xc⟩,⟨ya,yn,yc⟩,a,b,X,rfl,rfl,hg,g1,g2,g3,g4⟩:=hrel;clear HX HA HB HG;have HX:=Hi g1;have LA:=Hi g2.lin;have LB:=Hi g3.lin;have HG:=Hi g4;have hxl:=g2.len;have hyl:=g3.len;simp only at hxl hyl;clear g1 g2 g3 g4;simp only [SH.v];by_cases h0:yn=0
  case pos =>
   subst h0;have hb:b=[]:=nXj.1 hyl;have HV:Hid (bN p q=bq a):=Hi (by have:=HG.out.2.2.2.2.2.2.1;rw [hb] at this;exact this.symm);have HZ:Hid (SzL X a):=Hi (fun x hx=>(HG.out.2.2.1 x hx).sz HG.out.2.2.2.2.1);have hXs:=HG.out.small;have han:=HG.out.2.2.2.2.2.2.2.1
   go_wp2_with fail
   refine cM (lU xa xn xc a X _ LA.out.can zo zo HZ.out) fun x2 w2 hE G2=>?_
   refine mV3 hE ?_ HX LA LB;clear HX LA LB;intro HX LA LB;have hs_w2:=hE.size;clear hE;go_wp2
   go_ret
   exact ⟨x2,rfl,HX.out,by rw [HV.out];exact G2.out,HG.out.done hb⟩
  obtain ⟨m,rfl⟩:∃ m,yn=m+1:=⟨yn-1,zo⟩;have hpos:(0:Int)<(m:Int)+1:=zo;have Hb0:Hid (b≠[]):=Hi (by intro h;rw [h] at hyl;simp at hyl);obtain ⟨e1,e2,e3,e4,e5,e6,e7,e8,e9⟩:=HG.out;have hsz2:=HG.out.size Hb0.out;have hsz3:X+(xn-m)*(X+1)≤K:=by rw [hxl,hyl,show xn+1-(m+1)=xn-m by omega] at hsz2;exact hsz2
  have hXs:=HG.out.small
  go_wp2_with fail
  refine cM (kL xa ya xn xc m yc a b X X _ LA.out.can LB.out.can e3 e4 e5 e5 e1 e2 zo zo zo zo) fun x4 w4 hE G4=>?_
  refine mV3 hE ?_ HX LA LB;clear HX LA LB;intro HX LA LB;have hs_w4:=hE.size;clear hE;obtain ⟨ss,⟨ra,rn,rc⟩,ff⟩:=x4;obtain ⟨s,r,f,hdv,h1,h2,h3⟩:=G4.out;obtain ⟨X2,hnx⟩:=HG.out.next Hb0.out hdv;have HNX:=Hi hnx;clear hnx;obtain ⟨d0,d1,d2,d3,d4,d5,d6,d7⟩:=hdv;have hrl:=h2.len;simp only at hrl;have HR1:=Hi h2.lin;have HRF:Hid (∀ x ∈ r,Fr (X+(a.length+1-b.length)*(X+1)) 1 x):=Hi (fun x hx=>by
   have hw:=d3 x hx;have e1:x*((1:Nat):Rat)=x:=Rat.mul_one x;unfold Fr;rw [e1];exact hw)
  have hsr:(ar r).length<b.length:=by rw [aC,d4];exact d5
  have hX1:1≤X+(a.length+1-b.length)*(X+1):=zo;have hW1:1<W32 ^ (X+(a.length+1-b.length)*(X+1)):=Nat.one_lt_pow zo dZ;have HLM:Hid (b.length=m+1):=Hi hyl;clear h1 h2 h3 G4 d0 d1 d2 d3 d4 d6 d7 e1 e2 e3 e4 e6 e7 hsz3;simp only [DT] at *
  go_upto_region 5 with fail
  refine nmA ?_;intro w5 hE B11 hz_w5 hr_w5;refine mV4 hE ?_ HX LA LB HR1;clear HX LA LB HR1;intro HX LA LB HR1;have hs_w5:=hE.size;clear hE;replace b_B11:=bX3 B11
  go_wp2_with fail
  refine cM (jD ra rn rc r (X+(a.length+1-b.length)*(X+1)) 1 _ HR1.out.can zo hX1 zo dZ hW1 HRF.out) fun x6 w6 hE G6=>?_
  refine mV5 hE ?_ B11 HX LA LB HR1;clear B11 HX LA LB HR1;intro B11 HX LA LB HR1;have hs_w6:=hE.size;clear hE;replace b_B11:=bX3 B11;obtain ⟨zs,za⟩:=x6;obtain ⟨Lz,hLz,hz,hrz⟩:=G6.out.2;have HZ:=Hi (hrz.can rfl (nXe _) zo);clear G6 hrz hLz;simp only [MT] at *
  subst hz;go_wp2
  go_roundg (gk-1)
  case measure=>omega
  case rel=>exact ⟨⟨ya,m+1,yc⟩,_,b,ar r,_,rfl,rfl,zo,HX.out,LB.out.can,HZ.out,HNX.out⟩
theorem qx(pa qa:Option Addr)(P pc Q qc:Nat)(p q:List Rat)(S D E:Nat)(w:World)(hp:bw w ⟨pa,P,pc⟩ p)(hq:bw w ⟨qa,Q,qc⟩ q)(hP:P≤100000)(hQ:Q≤100000)
 (hS:1≤S)(hD:0<D)(hD2:D<W32 ^ S)(hE:0<E)(hE2:E<W32 ^ S)(hpf:∀ x ∈ p,Fr S D x)(hqf:∀ x ∈ q,Fr S E x)(K:Nat)(hsz:GZ K S p q)(hK:K≤16777216) :
  au 149 [.slice pa P pc,.slice qa Q qc] w SH.v (fun x w'=>bw w' x (bN p q)∧GcR K (bN p q)) :=
 qw pa qa P pc Q qc p q S D E w (hp.raw (bV hS hD hD2 hpf) (by obtain ⟨X1,h2,h3⟩:=hsz;have:=h3.small;omega)) hq hP hQ hS hD hD2 hE hE2 hpf hqf K hsz hK
def jO(w:World)(L:Nat)(os:List Rat):Prop:=∃ rs,RBk w L rs #[]∧dX aS w rs os
theorem jO.ext{w w':World}{L:Nat}{os:List Rat}(h:jO w L os)(he:Ext w w'):jO w' L os:=let ⟨rs,h1,h2⟩:=h;⟨rs,h1.ext he,h2.raw_ext he⟩
instance {w w':World} {L:Nat} {os:List Rat}:Go.Front.Mv w w' (jO w L os) (jO w' L os):=⟨fun e h=>jO.ext h e⟩

theorem jO.put{w1 w2:World}{L b:Nat}{os:List Rat}{T:TypeId}{cs:Array Value}(h:jO w1 L os)(T2:dK w1 b T cs w2)(hb:b≠L):jO w2 L os:=by
 obtain ⟨rs,h1,h2⟩:=h;exact ⟨rs,T2.rest L _ (Ne.symm hb) h1,h2.rawkeep T2.keep⟩
theorem jO.lt{w:World}{L:Nat}{os:List Rat}(h:jO w L os):L<w.heap.size:=let ⟨_,h1,_⟩:=h;h1.lt
theorem jO.cells{w:World}{L:Nat}{os:List Rat}(h:jO w L os){k:Nat}(hk:k<os.length):∃ r,RAt w L (k*3) r:=by
 obtain ⟨rs,h1,h2⟩:=h;exact ⟨_,h1.at (by rw [h2.1];exact hk)⟩
theorem jO.frozen{w:World}{L:Nat}{os:List Rat}(h:jO w L os)(i:Nat):w.frozen? ⟨L,i,none⟩=false:=let ⟨_,h1,_⟩:=h;h1.frozen i
theorem jO.raw{w:World}{L M:Nat}{os:List Rat}(h:jO w L os)(hl:os.length=M)(hM:M≤9223372036854775807):cD w ⟨some ⟨L,0,none⟩,M,M⟩ os:=by
 obtain ⟨rs,h1,h2⟩:=h;exact ⟨rs,h1.rs (by rw [h2.1,hl]) (nXe _) hM,h2⟩
theorem wD(w:World):aS w default 0:=⟨[],[],U32.nil _ _ _ dZ,U32.nil _ _ _ dZ,by decide +kernel,dZ,dZ⟩
theorem jO.make{w:World}{L M:Nat}(h:RBk w L (List.replicate M default) #[]):jO w L (List.replicate M 0):=by
 refine ⟨_,h,by simp,fun k hk=>?_⟩;rw [nXw] at hk;have e1:(List.replicate M (default:RH)).getD k default=default:=by simp [hk]
 have e2:(List.replicate M (0:Rat)).getD k 0=0:=by simp [hk]
 rw [e1,e2];exact wD w
theorem Ad{w1:World}{L k:Nat}{os:List Rat}{q:Rat}{F:World→Prop}{x:RH}(h:jO w1 L os)(hk:k<os.length)(hx:aS w1 x q)
 (H:∀ w2,(∃ cs,dK w1 L 34 cs w2)→jO w2 L (os.set k q)→F w2) :
  F (((w1.setCell ⟨L,k*3,none⟩ (.bool x.neg)).setCell ⟨L,k*3+1,none⟩ (.slice x.a x.n x.c)).setCell ⟨L,k*3+2,none⟩ (.slice x.b x.m x.d)):=by
 obtain ⟨rs,h1,h2⟩:=h;refine jc h1 rfl (by rw [h2.1];exact hk) fun w2 T=>H w2 ⟨_,T⟩ ⟨rs.set k x,T.bx,(h2.rawkeep T.keep).set (hx.keep T.keep) k⟩
theorem iJ{w:World}{ops:Array Oper}{rest:List Oper}{o:Oper}{a:Act}{Q:Exit→Act→World→Prop}(hgd:o.guard=none)(s x:Operand)(T:TypeId)(hT:Tryz.prog.underlying T=some (.slice 34))
 (ho:o.op=.call { callee:=.builtin .append,args:=#[s,x],argTypes:=#[T,T] })(hs:a.eval s=.slice none 0 0)(b off n c:Nat)(rs:List RH)(hx:a.eval x=.slice (some ⟨b,off,none⟩) n c)
 (hl:rs.length=n)(hn0:0<n)(hn:n≤1073741824)(hc:∀ k,k<n→RAt w b (off+k*3) (rs.getD k default))
 (h:∀ w' cap re,n≤cap→cap≤9223372036854775807→Ext w w'→RBk w' w.heap.size rs re→re.toList.all fj=true→wpList Tryz.prog ops Q rest (a.put o.dst (.slice (some ⟨w.heap.size,0,none⟩) n cap)) w'):wpList Tryz.prog ops Q (o :: rest) a w:=by
 obtain ⟨i0,hi0,hz0,hz1,hz2⟩:=info_parts k9;have hgc:∀ need old,need≤9223372036854775807→need≤grownCap w need old 34∧grownCap w need old 34≤9223372036854775807:=fun need old h=>⟨grownCap_ge _ _ _ _,by have:=grownCap_le_maxLen w need old 34 (by simpa [maxLen] using h);simpa [maxLen] using this⟩
 have hr:=run_append_nil (P:=Tryz.prog) w T o.type _ i0 _ hT hi0 hz0 ⟨b,off,none⟩ n c (aA rs) (by rw [aL,hl,hz1]) (kE hl hc) hn0 zo (by rw [hz2];omega);obtain ⟨g1,g2⟩:=hgc n 0 zo;have he:Ext w (w.drew.alloc (.cells ((aA rs).toArray++Builtin.zeroCells (RH.v default).cells (grownCap w n 0 34-n)) 34)):=(Ext.drew w).trans (Ext.alloc _ _);have hb:RBk (w.drew.alloc (.cells ((aA rs).toArray++Builtin.zeroCells (RH.v default).cells (grownCap w n 0 34-n)) 34)) w.heap.size rs (Builtin.zeroCells (RH.v default).cells (grownCap w n 0 34-n)):=by
  unfold RBk;exact heap_alloc_new w.drew _
 have hh:=h _ _ _ g1 g2 he hb (dz _);refine wpList_plain hgd fun K hK=>?_
 unfold Oper.wp;simp [execOp,ho,resolve,invoke,builtin,hs,hx,hr,Result.andThen];exact hK _ _ hh
theorem uU{q:List Rat}:∀ (f g:Nat) (u p:List Rat),p.length≤f→p.length≤g→0<q.length→jL q f u p=jL q g u p:=by
 intro f;induction f with
 | zero =>
  intro g u p h _ hq;cases g with
  | zero=>rfl
  | succ g=>show (u,p)=if q.length≤p.length then _ else (u,p);rw [if_neg zo]
 | succ f ih =>
  intro g u p h hg hq;cases g with
  | zero=>show (if q.length≤p.length then _ else (u,p))=(u,p);rw [if_neg zo]
  | succ g =>
   show (if q.length≤p.length then jL q f _ _ else (u,p))=if q.length≤p.length then jL q g _ _ else (u,p)
   by_cases hl:q.length≤p.length
   ·rw [if_pos hl,if_pos hl];have:=fT p q;exact ih g _ _ zo zo hq
   ·rw [if_neg hl,if_neg hl]
theorem uS{q u p:List Rat}{f:Nat}(h:p.length<q.length):jL q f u p=(u,p):=by
 cases f with
 | zero=>rfl
 | succ f=>show (if q.length≤p.length then _ else (u,p))=(u,p);rw [if_neg zo]
theorem AF{q u p:List Rat}{k m:Nat}(hq:q.length=m+1)(hp:p.length=k+m+1){r:List Rat}(hr:r=dC p q):jL q p.length u p=jL q r.length (u.set k (aJ p / aJ q)) r:=by
 have h1:=fT p q;rw [hp,show k+m+1=(k+m)+1 from rfl];show (if q.length≤p.length then jL q (k+m) (u.set (p.length-q.length) (aJ p / aJ q)) (dC p q) else (u,p))=_;rw [if_pos zo,show p.length-q.length=k by omega,←hr];exact uU _ _ _ _ (by rw [hr];omega) (nXe _) zo
theorem sS{p q:List Rat}{k m:Nat}(hq:q.length=m+1)(hp:p.length=k+m+1):tz (eX (p.take (k+m)) k q (aJ p / aJ q) m)=dC p q:=by
 unfold dC;refine sO fun i=>?_
 have hl:(p.take (k+m)).length=k+m:=by rw [nXk];omega
 rw [fO _ _ _ _ _ (by rw [hl];exact nXe _),cG,hp,hq,show k+m+1-1=k+m by omega,show k+m+1-(m+1)=k by omega];by_cases hi:i<k+m
 ·rw [if_pos hi,bU hi];by_cases h2:k≤i
  ·rw [if_pos ⟨h2,hi⟩,if_pos h2]
  ·rw [if_neg (fun h=>h2 h.1),if_neg h2]
 ·rw [if_neg hi,bh (by rw [hl];omega),if_neg (fun h=>hi h.2)];grind
structure DmL (w wr:World) (Lu N m:Nat) (a0 b0:List Rat) (S U D E:Nat) (xp:SH) (pp:List Rat):Prop where
 hx:Ext w wr
 ex:∃ (us:List Rat) (j lo hi:Nat),(hi≤Lu∨Lu<lo)∧hi≤wr.heap.size∧LIn wr xp pp lo hi∧jO wr Lu us∧us.length=N∧jL b0 pp.length us pp=jL b0 a0.length (List.replicate N 0) a0∧FrL (S+j*(U+1)) (D*ldD b0 E ^ j) pp∧j+(pp.length-m)≤N∧tz pp=pp
theorem pE(pa qa:Option Addr)(P pc Q qc:Nat)(p q:List Rat)(S U D E:Nat)(w:World)(hp:bw w ⟨pa,P,pc⟩ p)(hq:bw w ⟨qa,Q,qc⟩ q)(hP:P≤100000)(hQ:Q≤100000)
 (hS:1≤S)(hU:1≤U)(hD:0<D)(hD2:D<W32 ^ S)(hE:0<E)(hE2:E<W32 ^ U)(hpf:FrL S D p)(hqf:FrL U E q)(hq0:tz q≠[])(hsz:S+(P+1)*(U+1)≤30000000) :
  au 134 [.slice pa P pc,.slice qa Q qc] w QT (fun x w'=>bw w' x.1 (bD p q)∧bw w' x.2 (bB p q)):=by
 have HX:=Hi (Ext.refl w);have LP:=Hi hp.lin;have LQ:=Hi hq.lin;have HPF:=Hi hpf.tz;have HQF:=Hi hqf.tz;have HZP:=Hi (hpf.sz hS hD hD2);have HZQ:=Hi (hqf.sz hU hE hE2);have HQ0:=Hi hq0;have hPl:p.length=P:=hp.len;have hQl:q.length=Q:=hq.len;have HV:Hid (bD p q=tz (jL (tz q) (tz p).length (List.replicate ((tz p).length+1-(tz q).length) 0) (tz p)).1∧bB p q=(jL (tz q) (tz p).length (List.replicate ((tz p).length+1-(tz q).length) 0) (tz p)).2):=Hi ⟨rfl,rfl⟩;have hUb:U+1≤(P+1)*(U+1):=Nat.le_mul_of_pos_left _ (Nat.succ_pos _);have htp:=ah p;have htq:=ah q;clear hp hq hpf hqf;unfold au;go_enter Tryz.func134,Tryz.ntmps134
 go_wp2_with fail
 refine cM (bJ pa P pc p _ (LP.out.can.raw HZP.out zo) zo) fun x13 w13 hE G13=>?_
 refine mV3 hE ?_ HX LP LQ;clear HX LP LQ;intro HX LP LQ;have hs_w13:=hE.size;clear hE
 go_wp2_with fail
 refine cM (bJ qa Q qc q _ (LQ.out.can.raw HZQ.out zo) zo) fun x15 w15 hE G15=>?_
 refine mV4 hE ?_ G13 HX LP LQ;clear G13 HX LP LQ;intro G13 HX LP LQ;have hs_w15:=hE.size;clear hE;obtain ⟨xa,M,xc⟩:=x13;obtain ⟨ya,m1,yc⟩:=x15;have HA:Hid (LIn w15 ⟨xa,M,xc⟩ (tz p) 0 w15.heap.size):=Hi (G13.out.can.lin);have HB:Hid (LIn w15 ⟨ya,m1,yc⟩ (tz q) 0 w15.heap.size):=Hi (G15.out.can.lin);have hxl:(tz p).length=M:=HA.out.len;have hyl:(tz q).length=m1:=HB.out.len;obtain ⟨m,rfl⟩:∃ m,m1=m+1:=⟨m1-1,by have:=nYg.2 HQ0.out;omega⟩;clear LP;clear LQ;clear G13;clear G15;have HLQ:Hid (aJ (tz q)≠0):=Hi (bT HQ0.out);have HTP:Hid (tz (tz p)=tz p):=Hi (aM p);have HAl:=Hi hxl;have HBl:=Hi hyl;rw [hxl,hyl] at HV;obtain ⟨a0,ha0⟩:∃ a0,a0=tz p:=⟨_,rfl⟩;obtain ⟨b0,hb0⟩:∃ b0,b0=tz q:=⟨_,rfl⟩;rw [←ha0] at HA HPF HTP HV HAl;rw [←hb0] at HB HQF HLQ HV HBl;have hMP:M≤P:=zo;have hmQ:m+1≤Q:=zo;clear ha0 hb0 hxl hyl htp htq hPl hQl hq0;simp only [SH.v];have hz0:((m:Int)+1 == 0)=false:=by rw [nXs];omega
 obtain ⟨i0,hi0,hzz0,hz1,hz2⟩:=info_parts k9
 go_upto_region 5 with (refine aF rfl (.tmp 25) (.tmp 25) 24 rfl 34 i0 (RH.v default) 3 Tryz.underlying24 hi0 hzz0 hz1 _ _ (M-m) rfl rfl zo zo (by rw [hz2];omega) zo ?_;intro w26 hnew hE)
 have KB:=Hi (RBk.make rfl hnew);clear hnew;refine mV3 hE ?_ HX HA HB;clear HX HA HB;intro HX HA HB;have hs_w26:=hE.size;clear hE;obtain ⟨N,hN⟩:∃ N,N=M-m:=⟨_,rfl⟩;rw [show M+1-(m+1)=N by omega] at HV;rw [←hN] at KB ⊢;have hNa:N+m≤M+m:=zo;have hNb:M≤N+m:=zo;have hNc:N≤100001:=zo;have hNd:N+m≤M∨N=0:=by omega
 clear hN;obtain ⟨Lu,hLu⟩:∃ L,L=w15.heap.size:=⟨_,rfl⟩;have hLw:w.heap.size≤Lu:=zo;rw [←hLu] at KB HA HB ⊢;have HU0:=Hi (jO.make KB.out);have hLul:=HU0.out.lt;clear hLu;have HB0:=HB;have HX0:=HX;go_wp2
 go_loopg [0] M (fun g v wr=>∃ (xp:SH) (pp:List Rat),v=xp.v∧pp.length≤g∧DmL w wr Lu N m a0 b0 S U D E xp pp∧Mut Lu w26 wr)
 case atStart=>exact ⟨⟨xa,M,xc⟩,a0,rfl,by rw [HAl.out];exact nXe _,⟨HX.out,List.replicate N 0,0,0,Lu,Or.inl (nXe _),zo,HA.out,HU0.out,by simp,rfl,by rw [Nat.zero_mul,Nat.pow_zero,Nat.mul_one];exact HPF.out,by rw [HAl.out];omega,HTP.out⟩,Mut.refl _ _⟩
 case round =>
  obtain ⟨⟨ea,n,ec⟩,pp,rfl,hpg,⟨g1,us,j,lo,hi,h1,h2,g2,g3,h4,g5,g6,h7,g8⟩,gM⟩:=hrel;obtain ⟨g0,hg0⟩:∃ g0,g0=gk:=⟨_,rfl⟩;clear HX HA HB HU0 KB;have HX:=Hi g1;have LE:=Hi g2;have HU:=Hi g3;have HD5:=Hi g5;have HF6:=Hi g6;have HTE:=Hi g8;have HM:=Hi gM;have HB:=Hi (HB0.out.mut gM (Or.inr (nXe _)));have hel:pp.length=n:=g2.len;have HEl:=Hi hel;have hszr:=gM.size;clear g1 g2 g3 g5 g6 g8 gM;have hjU:(S+j*(U+1))≤30000000:=by
   have:j*(U+1)≤(P+1)*(U+1):=nXh _ zo;omega
  simp only [SH.v];by_cases hlt:n<m+1
  case pos =>
   have hlt':¬ (m:Int)+1≤(n:Int):=zo;have HQR:Hid (tz us=bD p q∧pp=bB p q):=Hi (by
    have e:=HD5.out;rw [uS (by rw [HEl.out,HBl.out];exact hlt)] at e;rw [HV.out.1,HV.out.2];have hA:a0.length=M:=HAl.out;rw [hA] at e;rw [←e];exact ⟨rfl,rfl⟩)
   go_wp2_with fail
   refine cM (bJ (some ⟨Lu,0,none⟩) N N us _ (HU.out.raw h4 zo) zo) fun x88 w88 hE G88=>?_
   replace HX:=hE.tr HX;replace HM:=Hi (Mut.trans HM.out (Mut.of_ext hE));refine mV3 hE ?_ LE HU HB;clear LE HU HB;intro LE HU HB;have hs_w88:=hE.size;clear hE;go_wp2;exact nXa (v:=QT (x88,⟨ea,n,ec⟩)) (by simp [results,Tryz.results134,go_sem,QT]) rfl ⟨(x88,⟨ea,n,ec⟩),rfl,HX.out,by rw [←HQR.out.1];exact G88.out.can,by rw [←HQR.out.2];exact LE.out.can⟩
  obtain ⟨k,rfl⟩:∃ k,n=k+m+1:=⟨n-(m+1),zo⟩;have hge:(m:Int)+1≤(k:Int)+m+1:=zo;have hkN:k<N:=zo;have hkI:(k:Int)<N:=zo;have HLp:Hid (aJ pp=pp.getD (k+m) 0):=Hi (by unfold aJ;rw [HEl.out];rfl);have HLb:Hid (aJ b0=b0.getD m 0):=Hi (by unfold aJ;rw [HBl.out];rfl);have ZP:Hid (SzL 30000000 pp):=Hi ((HF6.out.sz zo (Nat.mul_pos hD (nYm (m7 HQF.out HLQ.out hE))) (by
   have h3:ldD b0 E ^ j≤W32 ^ (U*j):=by rw [Nat.pow_mul];exact Nat.pow_le_pow_left (nYl (qL HQF.out)) j
   have h4:D*ldD b0 E ^ j<W32 ^ (S+U*j):=by
    rw [Nat.pow_add];exact Nat.mul_lt_mul_of_lt_of_le hD2 h3 (nYm ay)
   exact nXn h4 (rC (by rw [Nat.mul_add,nYe U j];omega)))).mono zo)
  have ZB:Hid (SzL 30000000 b0):=Hi ((HQF.out.sz hU hE hE2).mono zo);have Zp:Hid (Sz 30000000 (aJ pp)):=Hi (by rw [HLp.out];exact ZP.out.at (by rw [HEl.out];omega));have Zb:Hid (Sz 30000000 (aJ b0)):=Hi (by rw [HLb.out];exact ZB.out.at (by rw [HBl.out];omega));have Zc:Hid (Sz 60000000 (aJ pp / aJ b0)):=Hi ((Zp.out.div Zb.out).mono zo);obtain ⟨ba,oa,r,hao,hbl,⟨hc1,hc2,hc3⟩,hPc⟩:=LE.out.celx (k:=k+m) zo;obtain ⟨rneg,ra,rn,rc,rb,rm,rd⟩:=r;obtain ⟨bb,ob,r2,hbo,hbl2,⟨hd1,hd2,hd3⟩,hPd⟩:=HB.out.celx (k:=m) zo;obtain ⟨sneg,sa,sn,sc,sb,sm,sd⟩:=r2;simp only at hc1 hc2 hc3 hd1 hd2 hd3;have HC:=Hi hPc;have HE:=Hi hPd;rw [←HLp.out] at HC;rw [←HLb.out] at HE;clear hPc hPd;subst hao hbo;have hk0:((k:Int)+m+1)-((m:Int)+1)=k:=by omega
  have hk1:((k:Int)+m+1)-1=((k+m:Nat):Int):=zo;have hk2:((m:Int)+1)-1=m:=by omega
  go_upto_region 7 with fail
  refine wpG 14 (fun opIx=>match opIx with
   | 12=>sR (aJ pp / aJ b0)
   | 13=>.alloc 34 #[.bool false,.slice none 0 0,.slice none 0 0]
   | _=>.quiet) (fun _=>[]) fun w0 he0 hz0 hc0 hf0=>?_
  refine wps he0 (fun w1 hW hG=>?_) fun x30=>?_
  ·exact spc [RH.v ⟨rneg,ra,rn,rc,rb,rm,rd⟩,RH.v ⟨sneg,sa,sn,sc,sb,sm,sd⟩] Tryz.func35 (eQ _ _ _ _ _ ((HC.out.ext hW).raw Zp.out dZ) ((HE.out.ext hW).raw Zb.out dZ))
  refine qZ ?_;refine aW rfl rfl (fun w=>by simp [execOp,go_sem,ptr]) (fun b31 hb31 hl31=>?_);refine qZ ?_;refine aq ?_;intro w7 hI;have hE:=he0.out.trans hI.ext;have G30:=gT (hI.facts 12);have A31:Hid (w7.heap[b31]?=some (.cells #[.bool false,.slice none 0 0,.slice none 0 0] 34 (0,0))):=hI.facts 13;rw [hz0] at hl31;clear hI he0 hz0 hc0 hf0;replace HX:=hE.tr HX;replace HM:=Hi (Mut.trans HM.out (Mut.of_ext hE));refine mV5 hE ?_ LE HU HB HC HE;clear LE HU HB HC HE;intro LE HU HB HC HE;have hs_w7:=hE.size;clear hE;replace b_A31:=bX3 A31;simp only [pD,ptr];clear hc1 hc2 hc3 hd1 hd2 hd3;clear HC;clear HE
  go_upto_region 8 with fail
  refine bi A31.out rfl ?_;intro w8 T;replace HX:=Hi (T.ext HX.out zo);replace HM:=Hi (Mut.put HM.out T (by first|exact Or.inl rfl|exact Or.inr zo));replace LE:=Hi (LE.out.put T zo);replace HU:=Hi (HU.out.put T zo);replace HB:=Hi (HB.out.put T zo);replace G30:=Hi (G30.out.keep T.keep);replace A31:=Hi (T.bx);have hs_w8:=nle T.size;have hr_w8:=nle T.size.symm;clear T;replace b_A31:=bX3 A31;obtain ⟨r3,⟨f1,f2,f3⟩⟩:=jO.cells HU.out (k:=k) zo;have hfz:=jO.frozen HU.out;have hLl:=jO.lt HU.out
  go_upto_region 9 with fail
  have hraw:=G30.out.raw Zc.out dZ;refine Ad (x:=x30) (k:=k) HU.out zo hraw ?_;clear hraw;rintro y9 ⟨cs,T⟩ TN;clear f1 f2 f3 hfz hLl;clear HU;replace HX:=Hi (T.ext HX.out zo);replace HM:=Hi (Mut.put HM.out T (by first|exact Or.inl rfl|exact Or.inr zo));replace LE:=Hi (LE.out.put T zo);replace HB:=Hi (HB.out.put T zo);replace G30:=Hi (G30.out.keep T.keep);replace A31:=Hi (T.rest _ _ zo A31.out);have hs_y9:=nle T.size;have hr_y9:=nle T.size.symm;clear T;replace b_A31:=bX3 A31;have HU:=Hi TN;clear TN;obtain ⟨i1,rfl⟩:∃ i1,i1=i0:=⟨_,rfl⟩;obtain ⟨rs0,hRS,hVs,-⟩:=LE.out;have hrl:rs0.length=k+m+1:=by rw [hVs.1,HEl.out]
  obtain ⟨b',off',e',hcs⟩:=hRS.at'.resolve_left (by show ¬ (k+m+1=0);omega);obtain ⟨rfl,rfl⟩:ba=b'∧oa=off':=by simpa using e'
  have hcs2:∀ t,t<k+m→RAt y9 ba (oa+t*3) ((rs0.take (k+m)).getD t default):=fun t ht=>by
   have e:(rs0.take (k+m)).getD t default=rs0.getD t default:=by rw [nXd,List.getElem?_take,if_pos ht,←nXd]
   rw [e];exact hcs t (by show t<k+m+1;omega)
  have HVT:=Hi (hVs.take (k+m));have hec:(k:Int)+m≤ec:=by have:=hRS.le;simp only at this;omega
  clear hcs hVs hRS e';obtain ⟨us',hus⟩:∃ us',us'=us.set k (aJ pp / aJ b0):=⟨_,rfl⟩;have hul:us'.length=N:=by rw [hus,nXo,h4]
  rw [←hus] at HU;have HGo:Hid (jL b0 (dC pp b0).length us' (dC pp b0)=jL b0 a0.length (List.replicate N 0) a0):=Hi (by rw [hus,←HD5.out];exact (AF HBl.out HEl.out rfl).symm);have HFr:Hid (FrL (S+(j+1)*(U+1)) (D*ldD b0 E ^ (j+1)) (dC pp b0)):=Hi (by
   have h:=qi HF6.out HQF.out HLQ.out;rw [Nat.mul_assoc,←nXt] at h;rw [show S+(j+1)*(U+1)=S+j*(U+1)+U+1 by rw [nXy];omega];exact h)
  have hrst:(dC pp b0).length≤k+m:=by have:=fT pp b0;rw [HEl.out] at this;omega
  have HSR:Hid (tz (eX (pp.take (k+m)) k b0 (aJ pp / aJ b0) m)=dC pp b0):=Hi (sS HBl.out HEl.out);clear hus h1 h2;by_cases hkm:k+m=0
  case pos =>
   have HKM:=Hi hkm;clear hkm
   go_upto_region 10 with (at_builtin;refine cQ rfl (.const (.slice none 0 0)) (.tmp 58) 24 rfl 34 i1 Tryz.underlying24 hi0 none (some ⟨ba,oa,none⟩) 0 0 ec dZ rfl (Eq.trans rfl (congrArg (fun t=>Value.slice (some ⟨ba,oa,none⟩) t ec) HKM.out)) ?_)
   go_wp2
   go_loopg [11] 0 (fun g v wr=>∃ (i:Nat),m≤i∧v=.int .i64 (i:Nat)∧wr=y9)
   case atStart=>exact ⟨0,by have:=HKM.out;omega,rfl,rfl⟩
   case round =>
    obtain ⟨i,hi,rfl,rfl⟩:=hrel;have hin:¬ ((i:Int)<m):=zo
    go_wp2_with fail
    refine cM (bJ none 0 0 [] _ (bw.raw (k:=1) (eL.nil 0 _).can (fun x hx=>by simp at hx) dZ) zo) fun x86 w86 hE G86=>?_
    replace HX:=hE.tr HX;replace HM:=Hi (Mut.trans HM.out (Mut.of_ext hE));refine mV5 hE ?_ LE HB G30 A31 HU;clear LE HB G30 A31 HU;intro LE HB G30 A31 HU;have hs_w86:=hE.size;clear hE;replace b_A31:=bX3 A31;have HR0:Hid (dC pp b0=[]):=Hi (nXj.1 (by have:=HKM.out;omega));go_wp2
    go_roundg (g0-1)
    case measure=>omega
    case rel=>exact ⟨x86,dC pp b0,rfl,zo,⟨HX.out,us',j+1,wr.heap.size,w86.heap.size,Or.inr zo,nXe _,by rw [HR0.out];exact G86.out,HU.out,hul,HGo.out,HFr.out,zo,mI _ _⟩,HM.out⟩
  go_upto_region 10 with (at_builtin;refine iJ rfl (.const (.slice none 0 0)) (.tmp 58) 24 Tryz.underlying24 rfl rfl ba oa (k+m) ec (rs0.take (k+m)) rfl (by rw [nXk];omega) zo zo hcs2 ?_;intro y10 cap re hcp hcm hE hRB hre)
  have HL:Hid (bs y10 y9.heap.size (pp.take (k+m))):=Hi ⟨_,re,hRB,hre,HVT.out.can_ext hE⟩;clear hRB hre hcs2;obtain ⟨Ln,hLn⟩:∃ L,L=y9.heap.size:=⟨_,rfl⟩;have hb31L:b31<Ln:=by have:=b_A31.2.2;omega
  rw [←hLn] at HL ⊢;clear LE;replace HX:=hE.tr HX;replace HM:=Hi (Mut.trans HM.out (Mut.of_ext hE));refine mV4 hE ?_ HB G30 A31 HU;clear HB G30 A31 HU;intro HB G30 A31 HU;have hs_y10:=hE.size;clear hE;replace b_A31:=bX3 A31;have hLn2:w26.heap.size≤Ln:=zo;have hLn3:=HL.out.lt;clear hLn;go_wp2
  go_loopg [11] m (fun g v wr=>∃ (i:Nat),i+g=m∧v=.int .i64 (i:Nat)∧Ext w wr∧Mut Lu w26 wr∧LIn wr ⟨some ⟨bb,ob,none⟩,m+1,yc⟩ b0 0 Lu∧jO wr Lu us'∧wr.heap[b31]?=some (.cells #[.bool x30.neg,.slice x30.a x30.n x30.c,.slice x30.b x30.m x30.d] 34 (0,0))∧aB wr x30 (aJ pp / aJ b0)∧bs wr Ln (eX (pp.take (k+m)) k b0 (aJ pp / aJ b0) i))
  case atStart=>exact ⟨0,zo,rfl,HX.out,HM.out,HB.out,HU.out,A31.out,G30.out,HL.out⟩
  case round =>
   obtain ⟨i,hi,rfl,g1,g2,g3,g4,g5,g6,g7⟩:=hrel;clear HX HM HB HU A31 G30 HL;have HX:=Hi g1;have HM:=Hi g2;have HB:=Hi g3;have HU:=Hi g4;have A31:=Hi g5;have G30:=Hi g6;have HL:=Hi g7;have hszw:=g2.size;clear g1 g2 g3 g4 g5 g6 g7;replace b_A31:=bX3 A31;by_cases h0:gk=0
   case neg =>
    have hin:(i:Int)<m:=zo;obtain ⟨r18,⟨f1,f2,f3⟩,hr18⟩:=bs.cells HL.out (k:=k+i) (by rw [aN,nXk,HEl.out];omega);obtain ⟨tn,ta,tl,tc,tb,tm,td⟩:=r18;simp only at f1 f2 f3;have HR18:=Hi hr18;obtain ⟨b'',off'',r17,hao,hbl3,⟨hc1',hc2',hc3'⟩,hPc⟩:=HB.out.celx (k:=i) zo;obtain ⟨rfl,rfl⟩:bb=b''∧ob=off'':=by simpa using hao
    obtain ⟨qn,qa',ql,qc',qb,qm,qd⟩:=r17;simp only at hc1' hc2' hc3';have HQi:=Hi hPc;clear hPc hr18 hao;have hki:(k:Int)+i<(k:Int)+m:=zo;have ZBi:Hid (Sz 30000000 (b0.getD i 0)):=Hi (ZB.out.at (by rw [HBl.out];omega));have ZR:Hid (Sz 30000000 ((eX (pp.take (k+m)) k b0 (aJ pp / aJ b0) i).getD (k+i) 0)):=Hi (by
     rw [fO _ _ _ _ _ (by rw [nXk,HEl.out];omega),if_neg zo,rU,bU zo];exact ZP.out.at (by rw [HEl.out];omega))
    have hLl0:=HL.out.lt
    go_upto_region 13 with fail
    refine wpG 17 (fun opIx=>match opIx with
     | 15=>sR (aJ pp / aJ b0*b0.getD i 0)
     | 16=>sR ((eX (pp.take (k+m)) k b0 (aJ pp / aJ b0) i).getD (k+i) 0-aJ pp / aJ b0*b0.getD i 0)
     | _=>.quiet) (fun|16=>[15]|_=>[]) fun w0 he0 hz0 hc0 hf0=>?_
    refine wps he0 (fun w1 hW hG=>?_) fun x32=>?_
    ·exact spc [x30.v,RH.v ⟨qn,qa',ql,qc',qb,qm,qd⟩] Tryz.func48 (fV x30 _ _ _ _ ((G30.out.ext hW).raw Zc.out dZ) ((HQi.out.ext hW).raw ZBi.out dZ))
    refine qZ ?_;refine wps he0 (fun w1 hW hG=>?_) fun x33=>?_
    ·have g32:=gS (hG 15 dZ);exact spc [RH.v ⟨tn,ta,tl,tc,tb,tm,td⟩,x32.v] Tryz.func94 (nL _ x32 _ _ _ ((HR18.out.ext hW).raw ZR.out dZ) (g32.raw (Zc.out.mul ZBi.out) dZ))
    refine qZ ?_;refine aq ?_;intro y13 hI;have hE:=he0.out.trans hI.ext;have G32:=gT (hI.facts 15);have G33:=gT (hI.facts 16);clear hI he0 hz0 hc0 hf0;replace HX:=hE.tr HX;replace HM:=Hi (Mut.trans HM.out (Mut.of_ext hE));refine mV7 hE ?_ HB HU A31 HL G30 HQi HR18;clear HB HU A31 HL G30 HQi HR18;intro HB HU A31 HL G30 HQi HR18;have hs_y13:=hE.size;clear hE;replace b_A31:=bX3 A31;simp only [pD];clear f1 f2 f3 hc1' hc2' hc3';clear HR18;clear HQi;clear G32;obtain ⟨r19,⟨f1,f2,f3⟩,-⟩:=bs.cells HL.out (k:=k+i) (by rw [aN,nXk,HEl.out];omega);have hfz:=bs.frozen HL.out;have hLl:=bs.lt HL.out
    go_upto_region 12 with fail
    refine gZ (x:=x33) (k:=k+i) HL.out (by rw [aN,nXk,HEl.out];omega) G33.out ?_;rintro y14 ⟨cs,T⟩ TN;clear f1 f2 f3 hfz hLl;clear G33;clear HL;replace HX:=Hi (T.ext HX.out zo);replace HM:=Hi (Mut.put HM.out T (by first|exact Or.inl rfl|exact Or.inr zo));replace HB:=Hi (HB.out.put T zo);replace HU:=Hi (HU.out.put T zo);replace A31:=Hi (T.rest _ _ zo A31.out);replace G30:=Hi (G30.out.keep T.keep);have hs_y14:=nle T.size;have hr_y14:=nle T.size.symm;clear T;replace b_A31:=bX3 A31;have HL:=Hi TN;clear TN;go_wp2
    go_roundg (gk-1)
    case measure=>omega
    case rel=>exact ⟨i+1,zo,by go_num,HX.out,HM.out,HB.out,HU.out,A31.out,G30.out,HL.out⟩
   subst h0;obtain rfl:i=m:=by omega
   have hin:¬ ((i:Int)<i):=zo;have HSL:Hid (SzL 130000000 (eX (pp.take (k+i)) k b0 (aJ pp / aJ b0) i)):=Hi (fun x hx=>by
    obtain ⟨t,ht,rfl⟩:=cT hx;rw [aN,nXk,HEl.out] at ht;rw [fO _ _ _ _ _ (by rw [nXk,HEl.out];omega),bU zo];have h1:Sz 30000000 (pp.getD t 0):=ZP.out.at (by rw [HEl.out];omega);split
    ·rename_i hc
     have h2:Sz 30000000 (b0.getD (t-k) 0):=ZB.out.at (by rw [HBl.out];omega);exact (h1.sub (Zc.out.mul h2)).mono dZ
    ·rw [rU];exact h1.mono dZ)
   go_wp2_with fail
   refine cM (bJ (some ⟨Ln,0,none⟩) (k+i) cap _ _ ((HL.out.can (by rw [aN,nXk,HEl.out];omega) hcp hcm).raw HSL.out dZ) zo) fun x86 w86 hE G86=>?_
   replace HX:=hE.tr HX;replace HM:=Hi (Mut.trans HM.out (Mut.of_ext hE));refine mV5 hE ?_ HB HU A31 G30 HL;clear HB HU A31 G30 HL;intro HB HU A31 G30 HL;have hs_w86:=hE.size;clear hE;replace b_A31:=bX3 A31;rw [HSR.out] at G86;go_wp2
   go_roundg (g0-1)
   case measure=>omega
   case rel=>exact ⟨x86,dC pp b0,rfl,zo,⟨HX.out,us',j+1,wr.heap.size,w86.heap.size,Or.inr zo,nXe _,G86.out,HU.out,hul,HGo.out,HFr.out,zo,mI _ _⟩,HM.out⟩
end Go.Proofs.YtafgmcimcbhhjaaGreat
