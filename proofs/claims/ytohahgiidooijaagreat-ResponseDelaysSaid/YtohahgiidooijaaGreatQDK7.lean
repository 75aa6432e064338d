/- Py6, Py7, Py8 -/
import Derived.Test.YtohahgiidooijaaGreatQDM25
import Derived.Test.YtohahgiidooijaaGreatQDM22
import Derived.Test.YtohahgiidooijaaGreatQDK6
import Derived.Test.YtohahgiidooijaaGreatQDK2
set_option linter.unusedVariables false
set_option maxHeartbeats 8000000
set_option maxRecDepth 8000
namespace Go.Proofs.YtohahgiidooijaaGreat
open Go.RowKit Go.Front Go.Num Stab
attribute [local go_sem] XW.cell XW.frozen
theorem sW(ao:Option Addr)(n cap:Nat)(l:List Rat)(S:Nat)(w:World)(h:aJ w ⟨ao,n,cap⟩ l)(hn:n≤1000000)(hS:S≤16777216)(hz:SzL S l) :
  au 128 [.slice ao n cap] w SH.v (fun x w'=>aJ w' x (bi l)):=by
 have HX:=Hi (Ext.refl w);have LP:=Hi h.lin;have hle:=h.le;have hmx:=h.max;have Hlen:=Hi h.len;simp only at hle hmx Hlen;have HSz:=Hi hz;clear h hz;unfold au;go_enter Tryz.func128,Tryz.ntmps128
 go_wp2_with fail
 refine cM (eo ao n cap l _ (LP.out.can.raw HSz.out (by omega))) fun x2 w2 hE G2=>?_
 refine mV2 hE ?_ HX LP;clear HX LP;intro HX LP;have hs_w2:=hE.size;clear hE;obtain ⟨q1,q2⟩:=G2.out;obtain ⟨P,hP⟩:∃ P,P=(tz l).length:=⟨_,rfl⟩;obtain ⟨p,hp⟩:∃ p,p=tz l:=⟨_,rfl⟩;have LQ:Hid (LIn w2 ⟨ao,P,cap⟩ p 0 w.heap.size):=Hi (by rw [hp,q1,hP];exact LP.out.take q2);have HPl:Hid (p.length=P):=Hi (by rw [hp,hP]);have HTZ:Hid (p=tz l):=Hi hp;have HSp:Hid (SzL S p):=Hi (fun x hx=>HSz.out x (by rw [hp,q1] at hx;exact List.mem_of_mem_take hx));have hPn:P≤n:=by omega
 rw [←hP];clear hP hp q1 q2 G2 HSz Hlen;clear LP;by_cases h0:P=0
 case pos =>
  subst h0;have HV:Hid (bi l=[]):=Hi (by unfold bi;rw [if_pos (by rw [←HTZ.out];exact nXi.1 HPl.out)]);go_wp2
  go_ret
  exact ⟨⟨none,0,0⟩,rfl,HX.out,by rw [HV.out];exact (bj.nil 0 _).can⟩
 obtain ⟨m,rfl⟩:∃ m,P=m+1:=⟨P-1,by omega⟩;have hz0:((m:Int)+1 == 0)=false:=by rw [nXr];omega
 have Hne:Hid (tz l≠[]):=Hi (by rw [←HTZ.out];intro h;have:=HPl.out;rw [h] at this;simp at this);have HL:Hid (aI (tz l)=p.getD m 0):=Hi (by unfold aI;rw [←HTZ.out,HPl.out];rfl);have HL0:Hid (p.getD m 0≠0):=Hi (by rw [←HL.out];exact bN Hne.out);obtain ⟨b,off,r,hao,hbl,⟨hc1,hc2,hc3⟩,hPc⟩:=LQ.out.celx (k:=m) (by omega);obtain ⟨rneg,ra,rn,rc,rb,rm,rd⟩:=r;simp only at hc1 hc2 hc3;have HC:=Hi hPc;clear hPc h0;subst hao;have Zc:Hid (Sz S (p.getD m 0)):=Hi (HSp.out.at (by rw [HPl.out];omega))
 go_upto_region 4 with fail
 refine bU [(12,10)] _ (by simp only [jW,nG,List.push_toArray,List.cons_append,List.nil_append];exact rfl) (by intro c a d v w h;cases d <;> exact h) 12 (fun opIx=>match opIx with
  | 0=>.spec RH default RH.v (fun s w'=>ay w' s (((1:Int):Rat)))
  | 7=>.spec (RH) (default) (fun s=>.tuple #[s.v,.int .i64 0]) (fun x w'=>ay w' x (((1:Int):Rat) / p.getD m 0))
  | 11=>.alloc 30 #[.bool false,.slice none 0 0,.slice none 0 0]
  | _=>.quiet) (fun|7=>[0]|_=>[]) (by kernel_rfl) (by kernel_rfl) (by kernel_rfl) (fun w0 he0 hz0 hc0 hf0=>?_)
 replace he0:=Hi he0;simp only [pT];refine qQ ?_;refine wps he0.out rfl rfl (fun w1 hW hG=>?_) fun x20=>?_
 ·exact spc [.int .i64 1] Tryz.func76 (bM 1 _ (by decide) (by decide))
 refine qZ ?_;refine wps he0.out rfl rfl (fun w1 hW hG=>?_) fun x21=>?_
 ·have g20:=(hG 0 (by decide):aD _ _).get fun _ e g=>g.ext e
  exact spc [x20.v,RH.v ⟨rneg,ra,rn,rc,rb,rm,rd⟩] Tryz.func129 (d9 x20 _ _ _ _ (g20.raw (Sz.int (by decide)) (by decide)) ((HC.out.ext hW).raw Zc.out (by omega)) HL0.out)
 refine qZ ?_;refine aZ rfl rfl (fun w=>by simp [execOp,go_sem,ptr]) (fun b4 hb4 hl4=>?_);refine qZ ?_;refine aq ?_;intro w4 hI;have hE:=he0.out.trans hI.ext;have G20:=gT (hI.facts 0);have G21:=gT (hI.facts 7);have A4:Hid (w4.heap[b4]?=some (.cells #[.bool false,.slice none 0 0,.slice none 0 0] 30 (0,0))):=hI.facts 11;rw [hz0] at hl4;clear hI he0 hz0 hc0 hf0;refine mV2 hE ?_ HX LQ;clear HX LQ;intro HX LQ;have hs_w4:=hE.size;clear hE;replace b_A4:=bX3 A4;simp only [pD,ptr];clear hc1 hc2 hc3 hbl;have ZI:Hid (Sz (1+S) (((1:Int):Rat) / p.getD m 0)):=Hi ((Sz.int (by decide)).div Zc.out);have HZ8:Hid (SzL 33554432 p):=Hi (fun x hx=>(HSp.out x hx).mono (by omega))
 go_upto_region 5 with fail
 refine aV A4.out rfl ?_;intro w5 T;replace HX:=Hi (T.ext HX.out (by omega));replace LQ:=Hi (LQ.out.put T (by omega));replace G20:=Hi (G20.out.keep T.keep);replace A4:=Hi (T.bx);replace G21:=Hi (G21.out.keep T.keep);have hs_w5:=nle T.size;have hr_w5:=nle T.size.symm;clear T;replace b_A4:=bX3 A4
 go_wp2_with fail
 refine cM (c9 (some ⟨b,off,none⟩) (m+1) cap p x21 (((1:Int):Rat) / p.getD m 0) _ (LQ.out.can.raw HSp.out (by omega)) (G21.out.raw ZI.out (by omega)) (by omega) HZ8.out (ZI.out.mono (by omega))) fun x6 w6 hE G6=>?_
 refine mV5 hE ?_ HX LQ G20 A4 G21;clear HX LQ G20 A4 G21;intro HX LQ G20 A4 G21;have hs_w6:=hE.size;clear hE;replace b_A4:=bX3 A4;go_wp2
 go_ret
 exact ⟨x6,rfl,HX.out,by show aJ w6 x6 (bi l);unfold bi;rw [if_neg Hne.out,HL.out,←HTZ.out];exact G6.out.can⟩
abbrev QT(x:SH×SH):Value:=.tuple #[x.1.v,x.2.v,.int .i64 0]
theorem kN(pa qa:Option Addr)(P pc Q qc:Nat)(p q:List Rat)(S U D E:Nat)(w:World)(hp:aJ w ⟨pa,P,pc⟩ p)(hq:aJ w ⟨qa,Q,qc⟩ q)(hP:P≤100000)(hQ:Q≤100000)
 (hS:1≤S)(hU:1≤U)(hD:0<D)(hD2:D<W32 ^ S)(hE:0<E)(hE2:E<W32 ^ U)(hpf:∀ x ∈ p,Fr S D x)(hqf:∀ x ∈ q,Fr U E x)(hq0:tz q≠[])(hsz:S+P*(U+1)≤25000000)(hSU:S+U≤8000000) :
  au 73 [.slice pa P pc,.slice qa Q qc] w QT (fun x w'=>aJ w' x.1 (aP p q)∧aJ w' x.2 (bD p q)):=by
 have HX:=Hi (Ext.refl w);have LP:=Hi hp.lin;have LQ:=Hi hq.lin;have HPF:=Hi hpf;have HQF:=Hi hqf;have HQ0:=Hi hq0;have HPl:Hid (p.length=P):=Hi hp.len;have HQl:Hid (q.length=Q):=Hi hq.len;clear hp hq hpf hqf hq0;unfold au;go_enter Tryz.func73,Tryz.ntmps73
 go_wp2_with fail
 refine cM (fF pa P pc p S D _ LP.out.can (by omega) hS (by omega) hD hD2 HPF.out) fun x1 w1 hE G1=>?_
 refine mV3 hE ?_ HX LP LQ;clear HX LP LQ;intro HX LP LQ;have hs_w1:=hE.size;clear hE;obtain ⟨xs,xa⟩:=x1;have HXS:=Hi G1.out.1;have HXA:=Hi G1.out.2;clear G1;simp only [MT] at *
 go_upto_region 2 with fail
 refine nmA ?_;intro w2 hE B7 hz_w2 hr_w2;refine mV5 hE ?_ HX LP LQ HXS HXA;clear HX LP LQ HXS HXA;intro HX LP LQ HXS HXA;have hs_w2:=hE.size;clear hE;replace b_B7:=bX3 B7
 go_wp2_with fail
 refine cM (fF qa Q qc q U E _ LQ.out.can (by omega) hU (by omega) hE hE2 HQF.out) fun x3 w3 hE G3=>?_
 refine mV6 hE ?_ B7 HX LP LQ HXS HXA;clear B7 HX LP LQ HXS HXA;intro B7 HX LP LQ HXS HXA;have hs_w3:=hE.size;clear hE;replace b_B7:=bX3 B7;obtain ⟨ys,ya⟩:=x3;have HYS:=Hi G3.out.1;have HYA:=Hi G3.out.2;clear G3;simp only [MT] at *
 clear LP;clear LQ
 go_upto_region 3 with fail
 refine nmA ?_;intro w4 hE B9 hz_w4 hr_w4;refine mV6 hE ?_ B7 HX HXS HXA HYS HYA;clear B7 HX HXS HXA HYS HYA;intro B7 HX HXS HXA HYS HYA;have hs_w4:=hE.size;clear hE;replace b_B7:=bX3 B7;replace b_B9:=bX3 B9;obtain ⟨La,hLa,rfl,hra⟩:=HXA.out;obtain ⟨Lb,hLb,rfl,hrb⟩:=HYA.out;have HA:=Hi hra;have HB:=Hi hrb;obtain ⟨N,hN⟩:∃ N,N=(aB p).length:=⟨_,rfl⟩;obtain ⟨m,hm⟩:∃ m,(aB q).length=m+1:=⟨(tz q).length-1,by rw [aE];have:=nYf.2 HQ0.out;omega⟩;have hNP:N≤P:=by rw [hN,aE,←HPl.out];exact af p
 have hmQ:m+1≤Q:=by rw [←hm,aE,←HQl.out];exact af q
 have HN:=Hi hN;have HM:=Hi hm;rw [←hN,hm];clear hra hrb hN hm hLa hLb;clear HXA;clear HYA;have hz0:((m:Int)+1 == 0)=false:=by rw [nXr];omega
 have hmul:(N-m)*(U+1)≤P*(U+1):=nXg _ (by omega)
 go_wp2_with fail
 refine cM (kO (some ⟨La,0,none⟩) (some ⟨Lb,0,none⟩) N N m (m+1) (aB p) (aB q) S U _ (HA.out.can HN.out.symm (nXd _) (by omega)) (HB.out.can HM.out (nXd _) (by omega)) (dC (fun x hx=>HPF.out x (ii hx)) hD) (dC (fun x hx=>HQF.out x (ii hx)) hE) hS hU (bY p) (bY q) (by omega) (by omega) (by omega) (by omega)) fun x5 w5 hE G5=>?_
 refine mV7 hE ?_ B9 B7 HX HXS HYS HA HB;clear B9 B7 HX HXS HYS HA HB;intro B9 B7 HX HXS HYS HA HB;have hs_w5:=hE.size;clear hE;replace b_B7:=bX3 B7;replace b_B9:=bX3 B9;obtain ⟨ss,rr,ff⟩:=x5;obtain ⟨s,r,f,hdv,h1,h2,h3⟩:=G5.out;have HDv:=Hi hdv;have HS1:=Hi h1.lin;have HR1:=Hi h2.lin;have HF1:=Hi h3;have hw5:w5.heap.size=w5.heap.size:=rfl;clear h1 h2 h3 G5 hdv hw5;simp only [DT] at *
 clear HA;clear HB
 go_upto_region 6 with fail
 refine nmA ?_;intro w6 hE B13 hz_w6 hr_w6;refine mV8 hE ?_ B9 B7 HX HXS HYS HS1 HR1 HF1;clear B9 B7 HX HXS HYS HS1 HR1 HF1;intro B9 B7 HX HXS HYS HS1 HR1 HF1;have hs_w6:=hE.size;clear hE;replace b_B7:=bX3 B7;replace b_B9:=bX3 B9;replace b_B13:=bX3 B13;have ZS:Hid (Sz S (aO p)):=Hi ((fP (fun x hx=>HPF.out x (ii hx))).sz hS hD hD2);have ZU:Hid (Sz U (aO q)):=Hi ((fP (fun x hx=>HQF.out x (ii hx))).sz hU hE hE2);obtain ⟨d0,d1,d2,d3,d4,d5,d6,d7⟩:=HDv.out;have hbb:(N-m)*(U+1)=((aB p).length+1-(aB q).length)*(U+1):=by rw [←HN.out,HM.out,show N+1-(m+1)=N-m by omega]
 have hbb2:((aB p).length+1-(aB q).length)*U≤((aB p).length+1-(aB q).length)*(U+1):=nXf _ (by omega);have ZF:Hid (Sz 25000001 f):=Hi ((d1.mono (by omega)).sz (by omega));have ZSS:Hid (SzL 25000000 s):=Hi (fun x hx=>((d2 x hx).mono (by omega)).sz (by omega));have ZRR:Hid (SzL 25000000 r):=Hi (fun x hx=>((d3 x hx).mono (by omega)).sz (by omega));have HF0:=Hi d0;have HPL:Hid (tz (s.map (·*(aO p / f / aO q)))=aP p q∧tz (r.map (·*(aO p / f)))=bD p q):=Hi (zM HQ0.out d0 d5 d7);have hsn:ss.n≤1000000:=by have:=HS1.out.len;have h8:=HN.out;omega
 have hrn:rr.n≤1000000:=by have:=HR1.out.len;rw [HM.out] at d5;omega
 clear d0 d1 d2 d3 d4 d5 d6 d7 hbb hbb2 HDv
 go_wp2_with fail
 refine cM (d9 xs ff (aO p) f _ (HXS.out.raw ZS.out (by omega)) (HF1.out.raw ZF.out (by omega)) HF0.out) fun x7 w7 hE G7=>?_
 refine mV8 hE ?_ B13 B9 B7 HX HXS HYS HS1 HR1;clear B13 B9 B7 HX HXS HYS HS1 HR1;intro B13 B9 B7 HX HXS HYS HS1 HR1;replace HF1:=mV hE HF1;have hs_w7:=hE.size;clear hE;replace b_B7:=bX3 B7;replace b_B9:=bX3 B9;replace b_B13:=bX3 B13
 go_upto_region 7 with fail
 refine nmA ?_;intro w8 hE B14 hz_w8 hr_w8;refine mV8 hE ?_ G7 B13 B9 B7 HX HXS HYS HS1;clear G7 B13 B9 B7 HX HXS HYS HS1;intro G7 B13 B9 B7 HX HXS HYS HS1;refine mV2 hE ?_ HR1 HF1;clear HR1 HF1;intro HR1 HF1;have hs_w8:=hE.size;clear hE;replace b_B7:=bX3 B7;replace b_B9:=bX3 B9;replace b_B13:=bX3 B13;replace b_B14:=bX3 B14;have Z7:Hid (Sz (S+25000001) (aO p / f)):=Hi (ZS.out.div ZF.out)
 go_wp2_with fail
 refine cM (d9 x7 ys (aO p / f) (aO q) _ (G7.out.raw Z7.out (by omega)) (HYS.out.raw ZU.out (by omega)) (pw HQ0.out)) fun x9 w9 hE G9=>?_
 refine mV8 hE ?_ B14 G7 B13 B9 B7 HX HXS HYS;clear B14 G7 B13 B9 B7 HX HXS HYS;intro B14 G7 B13 B9 B7 HX HXS HYS;refine mV3 hE ?_ HS1 HR1 HF1;clear HS1 HR1 HF1;intro HS1 HR1 HF1;have hs_w9:=hE.size;clear hE;replace b_B7:=bX3 B7;replace b_B9:=bX3 B9;replace b_B13:=bX3 B13;replace b_B14:=bX3 B14
 go_upto_region 8 with fail
 refine nmA ?_;intro w10 hE B16 hz_w10 hr_w10;refine mV8 hE ?_ G9 B14 G7 B13 B9 B7 HX HXS;clear G9 B14 G7 B13 B9 B7 HX HXS;intro G9 B14 G7 B13 B9 B7 HX HXS;refine mV4 hE ?_ HYS HS1 HR1 HF1;clear HYS HS1 HR1 HF1;intro HYS HS1 HR1 HF1;have hs_w10:=hE.size;clear hE;replace b_B7:=bX3 B7;replace b_B9:=bX3 B9;replace b_B13:=bX3 B13;replace b_B14:=bX3 B14;replace b_B16:=bX3 B16;have Z9:Hid (Sz (S+25000001+U) (aO p / f / aO q)):=Hi (Z7.out.div ZU.out);obtain ⟨sa,sn,sc⟩:=ss;obtain ⟨ra,rn,rc⟩:=rr;simp only at hsn hrn;simp only [SH.v];refine wpG 6 (fun opIx=>match opIx with
  | 2=>.spec (SH) (default) (SH.v) (fun x w'=>aJ w' x (tz (s.map (·*(aO p / f / aO q)))))
  | 5=>.spec (SH) (default) (SH.v) (fun x w'=>aJ w' x (tz (r.map (·*(aO p / f)))))
  | _=>.quiet) (fun _=>[]) fun w0 he0 hz0 hc0 hf0=>?_
 refine wps he0.out rfl rfl (fun w1 hW hG=>?_) fun x20=>?_
 ·exact spc [.slice sa sn sc,x9.v] Tryz.func77 ((c9 sa sn sc s x9 _ _ ((HS1.out.ext hW).can.raw ZSS.out (by decide)) ((G9.out.ext hW).raw Z9.out (by omega)) (by omega) (ZSS.out.mono (by decide)) (Z9.out.mono (by omega))).weak (fun _ _ _ h=>h.can))
 refine qZ ?_;refine wps he0.out rfl rfl (fun w1 hW hG=>?_) fun x21=>?_
 ·exact spc [.slice ra rn rc,x7.v] Tryz.func77 ((c9 ra rn rc r x7 _ _ ((HR1.out.ext hW).can.raw ZRR.out (by decide)) ((G7.out.ext hW).raw Z7.out (by omega)) (by omega) (ZRR.out.mono (by decide)) (Z7.out.mono (by omega))).weak (fun _ _ _ h=>h.can))
 refine qZ ?_;refine aq ?_;intro w11 hI;have hE:=he0.out.trans hI.ext;have G20:=gT (hI.facts 2);have G21:=gT (hI.facts 5);clear hI he0 hz0 hc0 hf0;refine mV8 hE ?_ B16 B14 B13 B9 B7 HX HXS HYS;clear B16 B14 B13 B9 B7 HX HXS HYS;intro B16 B14 B13 B9 B7 HX HXS HYS;refine mV5 hE ?_ HF1 HS1 G9 HR1 G7;clear HF1 HS1 G9 HR1 G7;intro HF1 HS1 G9 HR1 G7;have hs_w11:=hE.size;clear hE;replace b_B7:=bX3 B7;replace b_B9:=bX3 B9;replace b_B13:=bX3 B13;replace b_B14:=bX3 B14;replace b_B16:=bX3 B16;simp only [pD];go_wp2;exact bodyPost_ret (v:=QT (x20,x21)) (by simp [results,Tryz.results73,go_sem,QT]) rfl ⟨(x20,x21),rfl,HX.out,by rw [←HPL.out.1];exact G20.out,by rw [←HPL.out.2];exact G21.out⟩
theorem yI(pa qa:Option Addr)(P pc Q qc:Nat)(p q:List Rat)(S D E:Nat)(w:World)(hp:aJ w ⟨pa,P,pc⟩ p)(hq:aJ w ⟨qa,Q,qc⟩ q)(hP:P≤100000)(hQ:Q≤100000)
 (hS:1≤S)(hD:0<D)(hD2:D<W32 ^ S)(hE:0<E)(hE2:E<W32 ^ S)(hpf:∀ x ∈ p,Fr S D x)(hqf:∀ x ∈ q,Fr S E x)(K:Nat)(hsz:GZ K S p q)(hK:K≤16777216) :
  au 72 [.slice pa P pc,.slice qa Q qc] w SH.v (fun x w'=>aJ w' x (bv p q)∧GcR K (bv p q)):=by
 have HX:=Hi (Ext.refl w);have LP:=Hi hp.lin;have LQ:=Hi hq.lin;have HPF:=Hi hpf;have HQF:=Hi hqf;obtain ⟨X0,hX0⟩:=GcI.start hS hD hE hpf hqf hsz (by have:=hp.len;simp only at this;omega) (by have:=hq.len;simp only at this;omega);have hSs:S+1≤16777216:=by
  have h1:=hX0.small;obtain ⟨X1,h2,h3⟩:=hsz;have:=h3.small;omega
 have hlp:(aB p).length≤P:=by have:=hp.len;have h2:=af p;rw [aE];simp only at this;omega
 have hlq:(aB q).length≤Q:=by have:=hq.len;have h2:=af q;rw [aE];simp only at this;omega
 have HG:=Hi hX0;clear hp hq hpf hqf hsz hX0;unfold au;go_enter Tryz.func72,Tryz.ntmps72
 go_wp2_with fail
 refine cM (fF pa P pc p S D _ LP.out.can (by omega) hS (by omega) hD hD2 HPF.out) fun x1 w1 hE G1=>?_
 refine mV3 hE ?_ HX LP LQ;clear HX LP LQ;intro HX LP LQ;have hs_w1:=hE.size;clear hE;obtain ⟨xs,xa⟩:=x1;have HXA:=Hi G1.out.2;clear G1;simp only [MT] at *
 go_upto_region 2 with fail
 refine nmA ?_;intro w2 hE B7 hz_w2 hr_w2;refine mV4 hE ?_ HX LP LQ HXA;clear HX LP LQ HXA;intro HX LP LQ HXA;have hs_w2:=hE.size;clear hE;replace b_B7:=bX3 B7
 go_wp2_with fail
 refine cM (fF qa Q qc q S E _ LQ.out.can (by omega) hS (by omega) hE hE2 HQF.out) fun x3 w3 hE G3=>?_
 refine mV5 hE ?_ B7 HX LP LQ HXA;clear B7 HX LP LQ HXA;intro B7 HX LP LQ HXA;have hs_w3:=hE.size;clear hE;replace b_B7:=bX3 B7;obtain ⟨ys,ya⟩:=x3;have HYA:=Hi G3.out.2;clear G3;simp only [MT] at *
 clear LP;clear LQ
 (try clear b_B7);clear B7
 go_wp2;refine nmA ?_;intro w4 hE B9 hz_w4 hr_w4;refine mV3 hE ?_ HX HXA HYA;clear HX HXA HYA;intro HX HXA HYA;have hs_w4:=hE.size;clear hE;replace b_B9:=bX3 B9;obtain ⟨La,hLa,rfl,hra⟩:=HXA.out;obtain ⟨Lb,hLb,rfl,hrb⟩:=HYA.out;have HA:=Hi (hra.can rfl (nXd _) (by omega));have HB:=Hi (hrb.can rfl (nXd _) (by omega));clear hra hrb hLa hLb HXA HYA B9 b_B9
 go_loopg [6,8] (aB q).length (fun g u v wr=>∃ (x y:SH) (a b:List Rat) (X:Nat),u=x.v∧v=y.v∧b.length≤g∧Ext w wr∧aJ wr x a∧aJ wr y b∧GcI K p q a b X)
 case atStart=>exact ⟨_,_,_,_,X0,rfl,rfl,nXd _,HX.out,HA.out,HB.out,HG.out⟩
 case round =>
  obtain ⟨⟨xa,xn,xc⟩,⟨ya,yn,yc⟩,a,b,X,rfl,rfl,hg,g1,g2,g3,g4⟩:=hrel;clear HX HA HB HG;have HX:=Hi g1;have LA:=Hi g2.lin;have LB:=Hi g3.lin;have HG:=Hi g4;have hxl:=g2.len;have hyl:=g3.len;simp only at hxl hyl;clear g1 g2 g3 g4;simp only [SH.v];by_cases h0:yn=0
  case pos =>
   subst h0;have hb:b=[]:=nXi.1 hyl;have HV:Hid (bv p q=bi a):=Hi (by have:=HG.out.2.2.2.2.2.2.1;rw [hb] at this;exact this.symm);have HZ:Hid (SzL X a):=Hi (fun x hx=>(HG.out.2.2.1 x hx).sz HG.out.2.2.2.2.1);have hXs:=HG.out.small;have han:=HG.out.2.2.2.2.2.2.2.1
   go_wp2_with fail
   refine cM (sW xa xn xc a X _ LA.out.can (by omega) (by omega) HZ.out) fun x2 w2 hE G2=>?_
   refine mV3 hE ?_ HX LA LB;clear HX LA LB;intro HX LA LB;have hs_w2:=hE.size;clear hE;go_wp2
   go_ret
   exact ⟨x2,rfl,HX.out,by rw [HV.out];exact G2.out,HG.out.done hb⟩
  obtain ⟨m,rfl⟩:∃ m,yn=m+1:=⟨yn-1,by omega⟩;have hpos:(0:Int)<(m:Int)+1:=by omega
  have Hb0:Hid (b≠[]):=Hi (by intro h;rw [h] at hyl;simp at hyl);obtain ⟨e1,e2,e3,e4,e5,e6,e7,e8,e9⟩:=HG.out;have hsz2:=HG.out.size Hb0.out;have hsz3:X+(xn-m)*(X+1)≤K:=by rw [hxl,hyl,show xn+1-(m+1)=xn-m by omega] at hsz2;exact hsz2
  have hXs:=HG.out.small
  go_wp2_with fail
  refine cM (kO xa ya xn xc m yc a b X X _ LA.out.can LB.out.can e3 e4 e5 e5 e1 e2 (by omega) (by omega) (by omega) (by omega)) fun x4 w4 hE G4=>?_
  refine mV3 hE ?_ HX LA LB;clear HX LA LB;intro HX LA LB;have hs_w4:=hE.size;clear hE;obtain ⟨ss,⟨ra,rn,rc⟩,ff⟩:=x4;obtain ⟨s,r,f,hdv,h1,h2,h3⟩:=G4.out;obtain ⟨X2,hnx⟩:=HG.out.next Hb0.out hdv;have HNX:=Hi hnx;clear hnx;obtain ⟨d0,d1,d2,d3,d4,d5,d6,d7⟩:=hdv;have hrl:=h2.len;simp only at hrl;have HR1:=Hi h2.lin;have HRF:Hid (∀ x ∈ r,Fr (X+(a.length+1-b.length)*(X+1)) 1 x):=Hi (fun x hx=>by
   have hw:=d3 x hx;have e1:x*((1:Nat):Rat)=x:=Rat.mul_one x;unfold Fr;rw [e1];exact hw)
  have hsr:(aB r).length<b.length:=by rw [aE,d4];exact d5
  have hX1:1≤X+(a.length+1-b.length)*(X+1):=by omega
  have hW1:1<W32 ^ (X+(a.length+1-b.length)*(X+1)):=Nat.one_lt_pow (by omega) (by decide);have HLM:Hid (b.length=m+1):=Hi hyl;clear h1 h2 h3 G4 d0 d1 d2 d3 d4 d6 d7 e1 e2 e3 e4 e6 e7 hsz3;simp only [DT] at *
  go_upto_region 5 with fail
  refine nmA ?_;intro w5 hE B11 hz_w5 hr_w5;refine mV4 hE ?_ HX LA LB HR1;clear HX LA LB HR1;intro HX LA LB HR1;have hs_w5:=hE.size;clear hE;replace b_B11:=bX3 B11
  go_wp2_with fail
  refine cM (fF ra rn rc r (X+(a.length+1-b.length)*(X+1)) 1 _ HR1.out.can (by omega) hX1 (by omega) (by decide) hW1 HRF.out) fun x6 w6 hE G6=>?_
  refine mV5 hE ?_ B11 HX LA LB HR1;clear B11 HX LA LB HR1;intro B11 HX LA LB HR1;have hs_w6:=hE.size;clear hE;replace b_B11:=bX3 B11;obtain ⟨zs,za⟩:=x6;obtain ⟨Lz,hLz,hz,hrz⟩:=G6.out.2;have HZ:=Hi (hrz.can rfl (nXd _) (by omega));clear G6 hrz hLz;simp only [MT] at *
  subst hz;go_wp2
  go_roundg (gk-1)
  case measure=>omega
  case rel=>exact ⟨⟨ya,m+1,yc⟩,_,b,aB r,_,rfl,rfl,by omega,HX.out,LB.out.can,HZ.out,HNX.out⟩
structure FH where
 b:SH
 a:SH
abbrev FH.v(f:FH):Value:=.agg #[f.b.v,f.a.v]
def pe(w:World)(f:FH)(b a:List Rat):Prop:=bX w f.b b∧bX w f.a a
def Fg(w:World)(f:FH)(b a:List Rat):Prop:=aJ w f.b b∧aJ w f.a a
theorem pe.ext{w w':World}{f:FH}{b a:List Rat}(h:pe w f b a)(he:Ext w w'):pe w' f b a:=⟨h.1.ext he,h.2.ext he⟩
instance {w w':World} {f:FH} {b a:List Rat}:Go.Front.Mv w w' (pe w f b a) (pe w' f b a):=⟨fun e h=>pe.ext h e⟩

def VF(b a:List Rat):Prop:=(tz b).length≤49∧(tz a).length≤49∧a.getD 0 0=1
instance (b a:List Rat):Decidable (VF b a):=by unfold VF;exact inferInstance
theorem dH{w1:World}{b:Nat}{T:TypeId}{c0 c1 v0 v1:Value}{F:World→Prop}(hb:w1.heap[b]?=some (.cells #[c0,c1] T (0,0)))(hn:#[c0,c1].toList.all iI=true)(h:∀ w2,fv w1 b T #[v0,v1] w2→F w2) :
  F ((w1.setCell ⟨b,0,none⟩ v0).setCell ⟨b,1,none⟩ v1) :=
 h _ (fv.of (nXa.1 hb).1 (ak hb hn) ((br.setCell w1 ⟨b,0,none⟩ v0).trans (br.setCell _ ⟨b,1,none⟩ v1)) (by simp [World.setCell]) (aU (aU hb 0 v0) 1 v1))
theorem dE(f:FH)(b a:List Rat)(w:World)(h:pe w f b a) :
  au 64 [f.v] w (fun _:Unit=>.bool (decide (VF b a))) (fun _ _=>True):=by
 obtain ⟨⟨ba,bn,bc⟩,⟨aa,an,ac⟩⟩:=f;have HB:=Hi h.1;have HA:=Hi h.2;have HX:=Hi (Ext.refl w);have hal:=h.2.len;have hle:=h.2.le;have hmx:=h.2.max;simp only at hal hle hmx;have Hal:=Hi hal;clear h hal;obtain ⟨P,hP⟩:∃ P,P=(tz b).length:=⟨_,rfl⟩;obtain ⟨Q,hQ⟩:∃ Q,Q=(tz a).length:=⟨_,rfl⟩;have HV:Hid (VF b a↔P≤49∧Q≤49∧a.getD 0 0=1):=Hi (by unfold VF;rw [hP,hQ]);have HP:=Hi hP;have HQ:=Hi hQ;clear hP hQ;unfold au;simp only [FH.v,SH.v];go_enter Tryz.func64,Tryz.ntmps64
 go_upto_region 1 with fail
 refine nmA ?_;intro w1 hE B1 hz_w1 hr_w1;replace HX:=hE.tr HX;have hs_w1:=hE.size;clear hE;replace b_B1:=bX3 B1;obtain ⟨b1,hb1⟩:∃ b1,b1=w.heap.size:=⟨_,rfl⟩;have hbw:w.heap.size≤b1:=by omega
 rw [←hb1] at B1 ⊢;clear hb1 b_B1;replace b_B1:=bX3 B1
 go_wp2_with fail
 refine cM (dG ba bn bc b _ (HB.out.ext HX.out)) fun x2 w2 hE _=>?_
 refine mV2 hE ?_ B1 HX;clear B1 HX;intro B1 HX;have hs_w2:=hE.size;clear hE;replace b_B1:=bX3 B1;rw [←HP.out];by_cases hp:P≤49
 case neg =>
  have hp1:(48:Int)<(P:Int)-1:=by omega
  have HD:Hid (decide (VF b a)=false):=Hi (decide_eq_false (fun h=>hp (HV.out.1 h).1));go_wp2
  go_ret
  exact ⟨(),by rw [HD.out];rfl,HX.out,trivial⟩
 have hp1:¬ (48:Int)<(P:Int)-1:=by omega
 go_wp2_with fail
 refine cM (dG aa an ac a _ (HA.out.ext HX.out)) fun x3 w3 hE _=>?_
 refine mV2 hE ?_ B1 HX;clear B1 HX;intro B1 HX;have hs_w3:=hE.size;clear hE;replace b_B1:=bX3 B1;rw [←HQ.out];by_cases hq:Q≤49
 case neg =>
  have hq1:(48:Int)<(Q:Int)-1:=by omega
  have HD:Hid (decide (VF b a)=false):=Hi (decide_eq_false (fun h=>hq (HV.out.1 h).2.1));go_wp2
  go_ret
  exact ⟨(),by rw [HD.out];rfl,HX.out,trivial⟩
 have hq1:¬ (48:Int)<(Q:Int)-1:=by omega
 by_cases h0:an=0
 case pos =>
  subst h0;have HD:Hid (decide (VF b a)=false):=Hi (decide_eq_false (fun h=>by
   have h1:=(HV.out.1 h).2.2;rw [aG (by rw [Hal.out];exact Nat.zero_le _)] at h1;exact absurd h1 (by decide)))
  go_upto_region 3 with fail
  go_quiet (fail)
  go_wp2
  go_ret
  exact ⟨(),by rw [HD.out];rfl,HX.out.trans (Ext.drewN _ _),trivial⟩
 have han:0<an:=by omega
 have hanI:(0:Int)<an:=by omega
 obtain ⟨bx,off,r,hao,hbl,⟨hc1,hc2,hc3⟩,hPc⟩:=(HA.out.ext HX.out).cells' (k:=0) (by omega);obtain ⟨rneg,ra,rn,rc,rb,rm,rd⟩:=r;simp only [Nat.zero_mul,Nat.add_zero] at hc1 hc2 hc3;have HC:=Hi hPc;clear hPc;subst hao;obtain ⟨cc,hcc⟩:∃ cc,cc=je (a.getD 0 0) ((1:Int):Rat):=⟨_,rfl⟩;have HCC:=Hi hcc;have HD:Hid (decide (VF b a)=decide (cc=0)):=Hi (by
  congr 1
  rw [HV.out,hcc,uL];exact propext ⟨fun h=>h.2.2,fun h=>⟨hp,hq,h⟩⟩)
 clear hcc
 go_upto_region 3 with fail
 refine aj 11 (fun opIx=>match opIx with
  | 9=>.spec RH default RH.v (fun s w'=>ay w' s (((1:Int):Rat)))
  | 10=>.spec Unit () (fun _=>.int .i64 cc) (fun _ _=>True)
  | _=>.quiet) (fun|10=>[9]|_=>[]) (by kernel_rfl) (by kernel_rfl) (fun w0 he0 hz0 hc0 hf0=>?_)
 replace he0:=Hi he0;simp only [pT]
 repeat (refine wpq fun K h=>?_;go_big_quiet_op;refine h _ ?_;clear h K;(try rw [decide_eq_true han]))
 refine wps he0.out rfl rfl (fun w1 hW hG=>?_) fun x9=>?_
 ·exact spc [.int .i64 1] Tryz.func76 (bM 1 _ (by decide) (by decide))
 simp only [pS]
 repeat (refine wpq fun K h=>?_;go_big_quiet_op;refine h _ ?_;clear h K;(try rw [decide_eq_true han]))
 refine wps he0.out rfl rfl (fun w1 hW hG=>?_) fun x10=>?_
 ·have g9:=(hG 9 (by decide):aD _ _).get fun _ e g=>g.ext e
  exact spc [RH.v ⟨rneg,ra,rn,rc,rb,rm,rd⟩,x9.v] Tryz.func120 ((by rw [HCC.out];exact q9 _ x9 _ _ _ (HC.out.ext hW) (g9.raw (Sz.int (by decide)) (by decide))))
 simp only [pS]
 repeat (refine wpq fun K h=>?_;go_big_quiet_op;refine h _ ?_;clear h K;(try rw [decide_eq_true han]))
 refine aq ?_;intro w4 hI;have hE:=he0.out.trans hI.ext;have G9:=gT (hI.facts 9);clear hI he0 hz0 hc0 hf0;refine mV2 hE ?_ B1 HX;clear B1 HX;intro B1 HX;have hs_w4:=hE.size;clear hE;replace b_B1:=bX3 B1;simp only [pD];clear hc1 hc2 hc3;by_cases hc0:cc=0
 case pos =>
  subst hc0;go_wp2
  go_ret
  exact ⟨(),by rw [HD.out];rfl,HX.out,trivial⟩
 have hcb:(cc == 0)=false:=by simpa using hc0
 go_wp2
 go_ret
 exact ⟨(),by rw [HD.out,decide_eq_false hc0];rfl,HX.out,trivial⟩
abbrev sdV(s:SH):Value:=.agg #[s.v]
abbrev qdV(f:FH):Value:=.agg #[f.b.v,f.a.v]
theorem rG(f:FH)(b a:List Rat)(w:World)(h:pe w f b a)(hb:f.b.n≤1000000)(ha:f.a.n≤1000000) :
  au 67 [f.v] w qdV (fun x w'=>Fg w' x (tz b) (tz a)):=by
 obtain ⟨⟨ba,bn,bc⟩,⟨aa,an,ac⟩⟩:=f;have HB:=Hi h.1;have HA:=Hi h.2;have HX:=Hi (Ext.refl w);simp only at hb ha;clear h;unfold au;simp only [FH.v,SH.v];go_enter Tryz.func67,Tryz.ntmps67
 go_upto_region 1 with fail
 refine jV ?_;intro w1 hE B1 B2 hz_w1 hr_w1;replace HX:=hE.tr HX;have hs_w1:=hE.size;clear hE;replace b_B1:=bX3 B1;replace b_B2:=bX3 B2;obtain ⟨N,hN⟩:∃ N,N=w1.heap.size:=⟨_,rfl⟩;have hN1:w1.heap.size≤N:=by omega
 have hN2:w.heap.size+1<N:=by omega
 have HN:=Hi hN;clear hN;refine wpG 9 (fun opIx=>match opIx with
  | 2=>.spec (SH) (default) (SH.v) (fun x w'=>bj N w' x (tz b))
  | 6=>.spec (SH) (default) (SH.v) (fun x w'=>bj N w' x (tz a))
  | _=>.quiet) (fun _=>[]) fun w0 he0 hz0 hc0 hf0=>?_
 refine wps he0.out rfl rfl (fun w1 hW hG=>?_) fun x2=>?_
 ·exact spc [.slice ba bn bc] Tryz.func90 ((gt ba bn bc b _ ((HB.out.ext HX.out).ext hW) (by omega)).weak (fun _ _ _ h=>h.mono (by rw [HN.out];exact hW.size)))
 refine qZ ?_;refine wps he0.out rfl rfl (fun w1 hW hG=>?_) fun x6=>?_
 ·exact spc [.slice aa an ac] Tryz.func90 ((gt aa an ac a _ ((HA.out.ext HX.out).ext hW) (by omega)).weak (fun _ _ _ h=>h.mono (by rw [HN.out];exact hW.size)))
 refine qZ ?_;refine aq ?_;intro w2 hI;have hE:=he0.out.trans hI.ext;have G2:=gT (hI.facts 2);have G6:=gT (hI.facts 6);clear hI he0 hz0 hc0 hf0;refine mV3 hE ?_ B1 B2 HX;clear B1 B2 HX;intro B1 B2 HX;have hs_w2:=hE.size;clear hE;replace b_B1:=bX3 B1;replace b_B2:=bX3 B2;simp only [pD];go_wp2;refine dH (F:=fun W=>bodyPost _ _ _ _ _ W) B2.out rfl ?_;intro w3 T;replace HX:=Hi (T.ext HX.out (by omega));replace B1:=Hi (T.rest _ _ (by omega) B1.out);replace B2:=Hi (T.bx);replace G2:=Hi (G2.out.put T (by omega));replace G6:=Hi (G6.out.put T (by omega));have hs_w3:=nle T.size;have hr_w3:=nle T.size.symm;clear T;replace b_B1:=bX3 B1;replace b_B2:=bX3 B2;exact bodyPost_ret (v:=qdV ⟨x2,x6⟩) (by simp [results,Tryz.results67,go_sem,b_B2.1]) rfl ⟨⟨x2,x6⟩,rfl,HX.out,G2.out.can,G6.out.can⟩
abbrev FE(x:FH×Int):Value:=.tuple #[x.1.v,.int .i64 x.2]
def xJ(b a:List Rat):Int×List Rat×List Rat:=if (tz b).length≤49∧(tz a).length≤49 then (0,b,a) else (12,[],[])
def FEP(v:Int×List Rat×List Rat)(x:FH×Int)(w:World):Prop:=x.2=v.1∧Fg w x.1 v.2.1 v.2.2
theorem kk(w:World):Fg w ⟨⟨none,0,0⟩,⟨none,0,0⟩⟩ [] []:=⟨(bj.nil 0 w).can,(bj.nil 0 w).can⟩
def FEN(N:Nat)(v:Int×List Rat×List Rat)(x:FH×Int)(w:World):Prop:=x.2=v.1∧bj N w x.1.b v.2.1∧bj N w x.1.a v.2.2
theorem FEN.ext{N:Nat}{v:Int×List Rat×List Rat}{x:FH×Int}{w w':World}(h:FEN N v x w)(he:Ext w w'):FEN N v x w':=⟨h.1,h.2.1.ext he,h.2.2.ext he⟩
instance {N:Nat} {v:Int×List Rat×List Rat} {x:FH×Int} {w w':World}:Go.Front.Mv w w' (FEN N v x w) (FEN N v x w'):=⟨fun e h=>FEN.ext h e⟩

theorem pU(b a:SH)(bs as':List Rat)(S N:Nat)(w:World)(hb:bj N w b bs)(ha:bj N w a as')(zb:SzL S bs)(za:SzL S as')(hS:S≤134217728) :
  au 65 [b.v,a.v] w FE (FEN N (xJ bs as')):=by
 obtain ⟨ba,bn,bc⟩:=b;obtain ⟨aa,an,ac⟩:=a;obtain ⟨hi0,hhi⟩:∃ hi0,hi0=w.heap.size:=⟨_,rfl⟩;have LB:Hid (LIn w ⟨ba,bn,bc⟩ bs N hi0):=Hi (by rw [hhi];exact hb);have LA:Hid (LIn w ⟨aa,an,ac⟩ as' N hi0):=Hi (by rw [hhi];exact ha);have ZB:=Hi zb;have ZA:=Hi za;have HX:=Hi (Ext.refl w);clear hb ha zb za;obtain ⟨P,hP⟩:∃ P,P=(tz bs).length:=⟨_,rfl⟩;obtain ⟨Q,hQ⟩:∃ Q,Q=(tz as').length:=⟨_,rfl⟩;have HV:Hid (xJ bs as'=if P≤49∧Q≤49 then (0,bs,as') else (12,[],[])):=Hi (by unfold xJ;rw [hP,hQ]);have HP:=Hi hP;have HQ:=Hi hQ;clear hP hQ;unfold au;simp only [SH.v];go_enter Tryz.func65,Tryz.ntmps65
 go_upto_region 1 with fail
 refine nmA ?_;intro w1 hE B1 hz_w1 hr_w1;refine mV3 hE ?_ LB LA HX;clear LB LA HX;intro LB LA HX;have hs_w1:=hE.size;clear hE;replace b_B1:=bX3 B1
 go_wp2_with fail
 refine cM (dG ba bn bc bs _ (LB.out.can.raw ZB.out hS)) fun x2 w2 hE _=>?_
 refine mV4 hE ?_ B1 LB LA HX;clear B1 LB LA HX;intro B1 LB LA HX;have hs_w2:=hE.size;clear hE;replace b_B1:=bX3 B1;rw [←HP.out];by_cases hp:P≤49
 case neg =>
  have hp1:(48:Int)<(P:Int)-1:=by omega
  have HD:Hid (xJ bs as'=(12,[],[])):=Hi (by rw [HV.out,if_neg (fun h=>hp h.1)]);go_wp2;refine dH (F:=fun W=>bodyPost _ _ _ _ _ W) B1.out rfl ?_;intro w3 T;replace HX:=Hi (T.ext HX.out (by omega));replace LB:=Hi (LB.out.put T (by omega));replace LA:=Hi (LA.out.put T (by omega));replace B1:=Hi (T.bx);have hs_w3:=nle T.size;have hr_w3:=nle T.size.symm;clear T;replace b_B1:=bX3 B1;exact bodyPost_ret (v:=FE (⟨⟨none,0,0⟩,⟨none,0,0⟩⟩,12)) (by simp [results,Tryz.results65,go_sem,b_B1.1,FE]) rfl ⟨(⟨⟨none,0,0⟩,⟨none,0,0⟩⟩,12),rfl,HX.out,by rw [HD.out];exact ⟨rfl,bj.nil _ _,bj.nil _ _⟩⟩
 have hp1:¬ (48:Int)<(P:Int)-1:=by omega
 go_wp2_with fail
 refine cM (dG aa an ac as' _ (LA.out.can.raw ZA.out hS)) fun x3 w3 hE _=>?_
 refine mV4 hE ?_ HX LB LA B1;clear HX LB LA B1;intro HX LB LA B1;have hs_w3:=hE.size;clear hE;replace b_B1:=bX3 B1;rw [←HQ.out];by_cases hq:Q≤49
 case neg =>
  have hq1:(48:Int)<(Q:Int)-1:=by omega
  have HD:Hid (xJ bs as'=(12,[],[])):=Hi (by rw [HV.out,if_neg (fun h=>hq h.2)]);go_wp2;refine dH (F:=fun W=>bodyPost _ _ _ _ _ W) B1.out rfl ?_;intro w4 T;replace HX:=Hi (T.ext HX.out (by omega));replace LB:=Hi (LB.out.put T (by omega));replace LA:=Hi (LA.out.put T (by omega));replace B1:=Hi (T.bx);have hs_w4:=nle T.size;have hr_w4:=nle T.size.symm;clear T;replace b_B1:=bX3 B1;exact bodyPost_ret (v:=FE (⟨⟨none,0,0⟩,⟨none,0,0⟩⟩,12)) (by simp [results,Tryz.results65,go_sem,b_B1.1,FE]) rfl ⟨(⟨⟨none,0,0⟩,⟨none,0,0⟩⟩,12),rfl,HX.out,by rw [HD.out];exact ⟨rfl,bj.nil _ _,bj.nil _ _⟩⟩
 have hq1:¬ (48:Int)<(Q:Int)-1:=by omega
 have HD:Hid (xJ bs as'=(0,bs,as')):=Hi (by rw [HV.out,if_pos ⟨hp,hq⟩]);go_wp2;refine dH (F:=fun W=>bodyPost _ _ _ _ _ W) B1.out rfl ?_;intro w5 T;replace HX:=Hi (T.ext HX.out (by omega));replace LB:=Hi (LB.out.put T (by omega));replace LA:=Hi (LA.out.put T (by omega));replace B1:=Hi (T.bx);have hs_w5:=nle T.size;have hr_w5:=nle T.size.symm;clear T;replace b_B1:=bX3 B1;exact bodyPost_ret (v:=FE (⟨⟨ba,bn,bc⟩,⟨aa,an,ac⟩⟩,0)) (by simp [results,Tryz.results65,go_sem,b_B1.1,FE]) rfl ⟨(⟨⟨ba,bn,bc⟩,⟨aa,an,ac⟩⟩,0),rfl,HX.out,by rw [HD.out];exact ⟨rfl,LB.out.mono (nXd _) (by omega),LA.out.mono (nXd _) (by omega)⟩⟩
theorem nR(f:FH)(b a:List Rat)(w:World)(h:pe w f b a)(hb:f.b.n≤1000000)(ha:f.a.n≤1000000) :
  au 68 [f.v] w (fun _:Unit=>.int .i64 (((tz b).length:Int)-1+(((tz a).length:Int)-1))) (fun _ _=>True):=by
 obtain ⟨⟨ba,bn,bc⟩,⟨aa,an,ac⟩⟩:=f;have HB:=Hi h.1;have HA:=Hi h.2;have HX:=Hi (Ext.refl w);have h1:(tz b).length≤1000000:=by have:=h.1.len;have h4:=af b;simp only at this hb;omega
 have h2:(tz a).length≤1000000:=by have:=h.2.len;have h4:=af a;simp only at this ha;omega
 obtain ⟨P,hP⟩:∃ P,P=(tz b).length:=⟨_,rfl⟩;obtain ⟨Q,hQ⟩:∃ Q,Q=(tz a).length:=⟨_,rfl⟩;have HP:=Hi hP;have HQ:=Hi hQ;rw [←hP,←hQ];rw [←hP] at h1;rw [←hQ] at h2;clear h hP hQ;unfold au;simp only [FH.v,SH.v];go_enter Tryz.func68,Tryz.ntmps68
 go_upto_region 1 with fail
 refine nmA ?_;intro w1 hE B1 hz_w1 hr_w1;replace HX:=hE.tr HX;have hs_w1:=hE.size;clear hE;replace b_B1:=bX3 B1;refine wpG 6 (fun opIx=>match opIx with
  | 2=>.spec Unit () (fun _=>.int .i64 ((P:Int)-1)) (fun _ _=>True)
  | 5=>.spec Unit () (fun _=>.int .i64 ((Q:Int)-1)) (fun _ _=>True)
  | _=>.quiet) (fun _=>[]) fun w0 he0 hz0 hc0 hf0=>?_
 refine wps he0.out rfl rfl (fun w1 hW hG=>?_) fun x2=>?_
 ·exact spc [.slice ba bn bc] Tryz.func93 ((by rw [HP.out];exact dG ba bn bc b _ ((HB.out.ext HX.out).ext hW)))
 refine qZ ?_;refine wps he0.out rfl rfl (fun w1 hW hG=>?_) fun x5=>?_
 ·exact spc [.slice aa an ac] Tryz.func93 ((by rw [HQ.out];exact dG aa an ac a _ ((HA.out.ext HX.out).ext hW)))
 refine qZ ?_;refine aq ?_;intro w2 hI;have hE:=he0.out.trans hI.ext;clear hI he0 hz0 hc0 hf0;refine mV2 hE ?_ B1 HX;clear B1 HX;intro B1 HX;have hs_w2:=hE.size;clear hE;replace b_B1:=bX3 B1;simp only [pD];go_wp2
 go_ret
 exact ⟨(),by go_num,HX.out,trivial⟩
theorem mh(t:SH)(p:List Rat)(s:Nat)(w:World)(h:bX w t p)(hn:t.n≤14)(hz:SzL s p)(hs1:1≤s)(hs:s≤400) :
  au 69 [sdV t] w SH.v (fun x w'=>aJ w' x (ah p p)):=by
 obtain ⟨ta,tn,tc⟩:=t;have H:=Hi h;have HX:=Hi (Ext.refl w);have HZ:=Hi hz;simp only at hn;clear h hz;unfold au;simp only [sdV,SH.v];go_enter Tryz.func69,Tryz.ntmps69
 go_upto_region 1 with fail
 refine nmA ?_;intro w1 hE B1 hz_w1 hr_w1;replace HX:=hE.tr HX;have hs_w1:=hE.size;clear hE;replace b_B1:=bX3 B1
 go_wp2_with fail
 refine cM (nj ta tn tc s p _ (H.out.ext HX.out) hn HZ.out hs1 hs) fun x2 w2 hE G2=>?_
 refine mV2 hE ?_ B1 HX;clear B1 HX;intro B1 HX;have hs_w2:=hE.size;clear hE;replace b_B1:=bX3 B1;obtain ⟨⟨a2,n2,c2⟩,e2⟩:=x2;obtain ⟨he,hl⟩:=G2.out;simp only at he hl;subst he;simp only [RF,SH.v];go_wp2
 go_ret
 exact ⟨⟨a2,n2,c2⟩,rfl,HX.out,hl⟩
end Go.Proofs.YtohahgiidooijaaGreat
