/- Py6, Py7, Py8 -/
import Derived.Test.YtafgmcimcbhhjaaGreatQIM25
import Derived.Test.YtafgmcimcbhhjaaGreatQIM22
import Derived.Test.YtafgmcimcbhhjaaGreatQIK6
import Derived.Test.YtafgmcimcbhhjaaGreatQIK4
set_option linter.unusedVariables false
set_option maxHeartbeats 8000000
set_option maxRecDepth 8000
namespace Go.Proofs.YtafgmcimcbhhjaaGreat
open Go.RowKit Go.Front Go.Num Stab
attribute [local go_sem] XW.cell XW.frozen
theorem kJ(ao:Option Addr)(n cap:Nat)(l:List Rat)(S:Nat)(w:World)(h:aG w ⟨ao,n,cap⟩ l)(hn:n≤1000000)(hS:S≤16777216)(hz:SzL S l) :
  aq 187 [.slice ao n cap] w SH.v (fun x w'=>aG w' x (cg l)):=by
 have HX:=Hi (Ext.refl w);have LP:=Hi h.lin;have hle:=h.le;have hmx:=h.max;have Hlen:=Hi h.len;simp only at hle hmx Hlen;have HSz:=Hi hz;clear h hz;unfold aq;go_enter Tryz.func187,Tryz.ntmps187
 go_wp2_with fail
 refine cM (dC ao n cap l _ (LP.out.can.raw HSz.out (by omega))) fun x2 w2 hE G2=>?_
 refine mV2 hE ?_ HX LP;clear HX LP;intro HX LP;have hs_w2:=hE.size;clear hE;obtain ⟨q1,q2⟩:=G2.out;obtain ⟨P,hP⟩:∃ P,P=(tz l).length:=⟨_,rfl⟩;obtain ⟨p,hp⟩:∃ p,p=tz l:=⟨_,rfl⟩;have LQ:Hid (LIn w2 ⟨ao,P,cap⟩ p 0 w.heap.size):=Hi (by rw [hp,q1,hP];exact LP.out.take q2);have HPl:Hid (p.length=P):=Hi (by rw [hp,hP]);have HTZ:Hid (p=tz l):=Hi hp;have HSp:Hid (SzL S p):=Hi (fun x hx=>HSz.out x (by rw [hp,q1] at hx;exact List.mem_of_mem_take hx));have hPn:P≤n:=by omega
 rw [←hP];clear hP hp q1 q2 G2 HSz Hlen;clear LP;by_cases h0:P=0
 case pos =>
  subst h0;have HV:Hid (cg l=[]):=Hi (by unfold cg;rw [if_pos (by rw [←HTZ.out];exact nXi.1 HPl.out)]);go_wp2
  go_ret
  exact ⟨⟨none,0,0⟩,rfl,HX.out,by rw [HV.out];exact (bR.nil 0 _).can⟩
 obtain ⟨m,rfl⟩:∃ m,P=m+1:=⟨P-1,by omega⟩;have hz0:((m:Int)+1 == 0)=false:=by rw [nXr];omega
 have Hne:Hid (tz l≠[]):=Hi (by rw [←HTZ.out];intro h;have:=HPl.out;rw [h] at this;simp at this);have HL:Hid (bM (tz l)=p.getD m 0):=Hi (by unfold bM;rw [←HTZ.out,HPl.out];rfl);have HL0:Hid (p.getD m 0≠0):=Hi (by rw [←HL.out];exact bZ Hne.out);obtain ⟨b,off,r,hao,hbl,⟨hc1,hc2,hc3⟩,hPc⟩:=LQ.out.celx (k:=m) (by omega);obtain ⟨rneg,ra,rn,rc,rb,rm,rd⟩:=r;simp only at hc1 hc2 hc3;have HC:=Hi hPc;clear hPc h0;subst hao;have Zc:Hid (Sz S (p.getD m 0)):=Hi (HSp.out.at (by rw [HPl.out];omega))
 go_upto_region 4 with fail
 refine aQ [(12,10)] _ (by simp only [gy,kk,List.push_toArray,List.cons_append,List.nil_append];exact rfl) (by intro c a d v w h;cases d <;> exact h) 12 (fun opIx=>match opIx with
  | 0=>.spec RH default RH.v (fun s w'=>av w' s (((1:Int):Rat)))
  | 7=>.spec (RH) (default) (fun s=>.tuple #[s.v,.int .i64 0]) (fun x w'=>av w' x (((1:Int):Rat) / p.getD m 0))
  | 11=>.alloc 34 #[.bool false,.slice none 0 0,.slice none 0 0]
  | _=>.quiet) (fun|7=>[0]|_=>[]) (by kernel_rfl) (by kernel_rfl) (by kernel_rfl) (fun w0 he0 hz0 hc0 hf0=>?_)
 replace he0:=Hi he0;simp only [pT];refine qQ ?_;refine wps he0.out rfl rfl (fun w1 hW hG=>?_) fun x20=>?_
 ·exact spc [.int .i64 1] Tryz.func84 (aI 1 _ (by decide) (by decide))
 refine qZ ?_;refine wps he0.out rfl rfl (fun w1 hW hG=>?_) fun x21=>?_
 ·have g20:=(hG 0 (by decide):aw _ _).get fun _ e g=>g.ext e
  exact spc [x20.v,RH.v ⟨rneg,ra,rn,rc,rb,rm,rd⟩] Tryz.func121 (bO x20 _ _ _ _ (g20.raw (Sz.int (by decide)) (by decide)) ((HC.out.ext hW).raw Zc.out (by omega)) HL0.out)
 refine qZ ?_;refine aH rfl rfl (fun w=>by simp [execOp,go_sem,ptr]) (fun b4 hb4 hl4=>?_);refine qZ ?_;refine aj ?_;intro w4 hI;have hE:=he0.out.trans hI.ext;have G20:=gT (hI.facts 0);have G21:=gT (hI.facts 7);have A4:Hid (w4.heap[b4]?=some (.cells #[.bool false,.slice none 0 0,.slice none 0 0] 34 (0,0))):=hI.facts 11;rw [hz0] at hl4;clear hI he0 hz0 hc0 hf0;refine mV2 hE ?_ HX LQ;clear HX LQ;intro HX LQ;have hs_w4:=hE.size;clear hE;replace b_A4:=bX3 A4;simp only [pD,ptr];clear hc1 hc2 hc3 hbl;have ZI:Hid (Sz (1+S) (((1:Int):Rat) / p.getD m 0)):=Hi ((Sz.int (by decide)).div Zc.out);have HZ8:Hid (SzL 33554432 p):=Hi (fun x hx=>(HSp.out x hx).mono (by omega))
 go_upto_region 5 with fail
 refine aY A4.out rfl ?_;intro w5 T;replace HX:=Hi (T.ext HX.out (by omega));replace LQ:=Hi (LQ.out.put T (by omega));replace G20:=Hi (G20.out.keep T.keep);replace A4:=Hi (T.bx);replace G21:=Hi (G21.out.keep T.keep);have hs_w5:=nle T.size;have hr_w5:=nle T.size.symm;clear T;replace b_A4:=bX3 A4
 go_wp2_with fail
 refine cM (br (some ⟨b,off,none⟩) (m+1) cap p x21 (((1:Int):Rat) / p.getD m 0) _ (LQ.out.can.raw HSp.out (by omega)) (G21.out.raw ZI.out (by omega)) (by omega) HZ8.out (ZI.out.mono (by omega))) fun x6 w6 hE G6=>?_
 refine mV5 hE ?_ HX LQ G20 A4 G21;clear HX LQ G20 A4 G21;intro HX LQ G20 A4 G21;have hs_w6:=hE.size;clear hE;replace b_A4:=bX3 A4;go_wp2
 go_ret
 exact ⟨x6,rfl,HX.out,by show aG w6 x6 (cg l);unfold cg;rw [if_neg Hne.out,HL.out,←HTZ.out];exact G6.out.can⟩
abbrev QT(x:SH×SH):Value:=.tuple #[x.1.v,x.2.v,.int .i64 0]
def RIn(w:World)(s:SH)(l:List Rat)(N:Nat):Prop:=cV w s l∧(s.n=0∨∃ L o,s.a=some ⟨L,o,none⟩∧L<N)
theorem RIn.of{w:World}{s:SH}{l:List Rat}(h:cV w s l):RIn w s l w.heap.size:=by
 refine ⟨h,?_⟩;obtain ⟨rs,h1,-⟩:=h;rcases h1.at' with h0|⟨b,off,e,hc⟩
 ·exact Or.inl h0
 ·rcases Nat.eq_zero_or_pos s.n with h0|h0
  ·exact Or.inl h0
  ·exact Or.inr ⟨b,off,e,nXp _ _ (hc 0 h0).1⟩
theorem RIn.raw{w:World}{s:SH}{l:List Rat}{N:Nat}(h:RIn w s l N):cV w s l:=h.1
theorem RIn.ext{w w':World}{s:SH}{l:List Rat}{N:Nat}(h:RIn w s l N)(he:Ext w w'):RIn w' s l N:=⟨h.1.ext he,h.2⟩
instance {w w':World} {s:SH} {l:List Rat} {N:Nat}:Go.Front.Mv w w' (RIn w s l N) (RIn w' s l N):=⟨fun e h=>RIn.ext h e⟩

theorem RIn.put{w1 w2:World}{s:SH}{l:List Rat}{N b:Nat}{T:TypeId}{cs:Array Value}(h:RIn w1 s l N)(T2:fj w1 b T cs w2)(hb:N≤b):RIn w2 s l N:=by
 refine ⟨?_,h.2⟩;obtain ⟨⟨rs,h1,h2⟩,h3⟩:=h;refine ⟨rs,⟨h1.len,h1.le,h1.max,?_⟩,h2.rawkeep T2.keep⟩;rcases h1.at' with h0|⟨c,off,e,hc⟩
 ·exact Or.inl h0
 ·rcases h3 with h0|⟨L,o,e2,hL⟩
  ·exact Or.inl h0
  ·have hcb:c≠b:=by
    rw [e] at e2;simp only [Option.some.injEq,Addr.mk.injEq] at e2;omega
   exact Or.inr ⟨c,off,e,fun k hk=>⟨T2.cell hcb (hc k hk).1,T2.cell hcb (hc k hk).2.1,T2.cell hcb (hc k hk).2.2⟩⟩
theorem nU(pa qa:Option Addr)(P pc Q qc:Nat)(p q:List Rat)(S U D E:Nat)(w:World)(hp:cV w ⟨pa,P,pc⟩ p)(hq:aG w ⟨qa,Q,qc⟩ q)(hP:P≤100000)(hQ:Q≤100000)
 (hS:1≤S)(hU:1≤U)(hD:0<D)(hD2:D<W32 ^ S)(hE:0<E)(hE2:E<W32 ^ U)(hpf:∀ x ∈ p,Fr S D x)(hqf:∀ x ∈ q,Fr U E x)(hq0:tz q≠[])(hsz:S+P*(U+1)≤25000000)(hSU:S+U≤8000000) :
  aq 186 [.slice pa P pc,.slice qa Q qc] w QT (fun x w'=>aG w' x.1 (bA p q)∧aG w' x.2 (bP p q)):=by
 have HX:=Hi (Ext.refl w);have LP:=Hi (RIn.of hp);have LQ:=Hi hq.lin;have HPF:=Hi hpf;have HQF:=Hi hqf;have HQ0:=Hi hq0;have HPl:Hid (p.length=P):=Hi hp.len;have HQl:Hid (q.length=Q):=Hi hq.len;clear hp hq hpf hqf hq0;unfold aq;go_enter Tryz.func186,Tryz.ntmps186
 go_wp2_with fail
 refine cM (eK pa P pc p S D _ LP.out.raw (by omega) hS (by omega) hD hD2 HPF.out) fun x1 w1 hE G1=>?_
 refine mV3 hE ?_ HX LP LQ;clear HX LP LQ;intro HX LP LQ;have hs_w1:=hE.size;clear hE;obtain ⟨xs,xa⟩:=x1;have HXS:=Hi G1.out.1;have HXA:=Hi G1.out.2;clear G1;simp only [MT] at *
 go_upto_region 2 with fail
 refine nmA ?_;intro w2 hE B7 hz_w2 hr_w2;refine mV5 hE ?_ HX LP LQ HXS HXA;clear HX LP LQ HXS HXA;intro HX LP LQ HXS HXA;have hs_w2:=hE.size;clear hE;replace b_B7:=bX3 B7
 go_wp2_with fail
 refine cM (iR qa Q qc q U E _ LQ.out.can (by omega) hU (by omega) hE hE2 HQF.out) fun x3 w3 hE G3=>?_
 refine mV6 hE ?_ B7 HX LP LQ HXS HXA;clear B7 HX LP LQ HXS HXA;intro B7 HX LP LQ HXS HXA;have hs_w3:=hE.size;clear hE;replace b_B7:=bX3 B7;obtain ⟨ys,ya⟩:=x3;have HYS:=Hi G3.out.1;have HYA:=Hi G3.out.2;clear G3;simp only [MT] at *
 clear LP;clear LQ
 go_upto_region 3 with fail
 refine nmA ?_;intro w4 hE B9 hz_w4 hr_w4;refine mV6 hE ?_ B7 HX HXS HXA HYS HYA;clear B7 HX HXS HXA HYS HYA;intro B7 HX HXS HXA HYS HYA;have hs_w4:=hE.size;clear hE;replace b_B7:=bX3 B7;replace b_B9:=bX3 B9;obtain ⟨La,hLa,rfl,hra⟩:=HXA.out;obtain ⟨Lb,hLb,rfl,hrb⟩:=HYA.out;have HA:=Hi hra;have HB:=Hi hrb;obtain ⟨N,hN⟩:∃ N,N=(ax p).length:=⟨_,rfl⟩;obtain ⟨m,hm⟩:∃ m,(ax q).length=m+1:=⟨(tz q).length-1,by rw [aD];have:=nYe.2 HQ0.out;omega⟩;have hNP:N≤P:=by rw [hN,aD,←HPl.out];exact ai p
 have hmQ:m+1≤Q:=by rw [←hm,aD,←HQl.out];exact ai q
 have HN:=Hi hN;have HM:=Hi hm;rw [←hN,hm];clear hra hrb hN hm hLa hLb;clear HXA;clear HYA;have hz0:((m:Int)+1 == 0)=false:=by rw [nXr];omega
 have hmul:(N-m)*(U+1)≤P*(U+1):=nXg _ (by omega)
 go_wp2_with fail
 refine cM (jO (some ⟨La,0,none⟩) (some ⟨Lb,0,none⟩) N N m (m+1) (ax p) (ax q) S U _ (HA.out.can HN.out.symm (nXd _) (by omega)) (HB.out.can HM.out (nXd _) (by omega)) (dM (fun x hx=>HPF.out x (gD hx)) hD) (dM (fun x hx=>HQF.out x (gD hx)) hE) hS hU (bt p) (bt q) (by omega) (by omega) (by omega) (by omega)) fun x5 w5 hE G5=>?_
 refine mV7 hE ?_ B9 B7 HX HXS HYS HA HB;clear B9 B7 HX HXS HYS HA HB;intro B9 B7 HX HXS HYS HA HB;have hs_w5:=hE.size;clear hE;replace b_B7:=bX3 B7;replace b_B9:=bX3 B9;obtain ⟨ss,rr,ff⟩:=x5;obtain ⟨s,r,f,hdv,h1,h2,h3⟩:=G5.out;have HDv:=Hi hdv;have HS1:=Hi h1.lin;have HR1:=Hi h2.lin;have HF1:=Hi h3;have hw5:w5.heap.size=w5.heap.size:=rfl;clear h1 h2 h3 G5 hdv hw5;simp only [DT] at *
 clear HA;clear HB
 go_upto_region 6 with fail
 refine nmA ?_;intro w6 hE B13 hz_w6 hr_w6;refine mV8 hE ?_ B9 B7 HX HXS HYS HS1 HR1 HF1;clear B9 B7 HX HXS HYS HS1 HR1 HF1;intro B9 B7 HX HXS HYS HS1 HR1 HF1;have hs_w6:=hE.size;clear hE;replace b_B7:=bX3 B7;replace b_B9:=bX3 B9;replace b_B13:=bX3 B13;have ZS:Hid (Sz S (aK p)):=Hi ((eU (fun x hx=>HPF.out x (gD hx))).sz hS hD hD2);have ZU:Hid (Sz U (aK q)):=Hi ((eU (fun x hx=>HQF.out x (gD hx))).sz hU hE hE2);obtain ⟨d0,d1,d2,d3,d4,d5,d6,d7⟩:=HDv.out;have hbb:(N-m)*(U+1)=((ax p).length+1-(ax q).length)*(U+1):=by rw [←HN.out,HM.out,show N+1-(m+1)=N-m by omega]
 have hbb2:((ax p).length+1-(ax q).length)*U≤((ax p).length+1-(ax q).length)*(U+1):=nXf _ (by omega);have ZF:Hid (Sz 25000001 f):=Hi ((d1.mono (by omega)).sz (by omega));have ZSS:Hid (SzL 25000000 s):=Hi (fun x hx=>((d2 x hx).mono (by omega)).sz (by omega));have ZRR:Hid (SzL 25000000 r):=Hi (fun x hx=>((d3 x hx).mono (by omega)).sz (by omega));have HF0:=Hi d0;have HPL:Hid (tz (s.map (·*(aK p / f / aK q)))=bA p q∧tz (r.map (·*(aK p / f)))=bP p q):=Hi (wu HQ0.out d0 d5 d7);have hsn:ss.n≤1000000:=by have:=HS1.out.len;have h8:=HN.out;omega
 have hrn:rr.n≤1000000:=by have:=HR1.out.len;rw [HM.out] at d5;omega
 clear d0 d1 d2 d3 d4 d5 d6 d7 hbb hbb2 HDv
 go_wp2_with fail
 refine cM (bO xs ff (aK p) f _ (HXS.out.raw ZS.out (by omega)) (HF1.out.raw ZF.out (by omega)) HF0.out) fun x7 w7 hE G7=>?_
 refine mV8 hE ?_ B13 B9 B7 HX HXS HYS HS1 HR1;clear B13 B9 B7 HX HXS HYS HS1 HR1;intro B13 B9 B7 HX HXS HYS HS1 HR1;replace HF1:=mV hE HF1;have hs_w7:=hE.size;clear hE;replace b_B7:=bX3 B7;replace b_B9:=bX3 B9;replace b_B13:=bX3 B13
 go_upto_region 7 with fail
 refine nmA ?_;intro w8 hE B14 hz_w8 hr_w8;refine mV8 hE ?_ G7 B13 B9 B7 HX HXS HYS HS1;clear G7 B13 B9 B7 HX HXS HYS HS1;intro G7 B13 B9 B7 HX HXS HYS HS1;refine mV2 hE ?_ HR1 HF1;clear HR1 HF1;intro HR1 HF1;have hs_w8:=hE.size;clear hE;replace b_B7:=bX3 B7;replace b_B9:=bX3 B9;replace b_B13:=bX3 B13;replace b_B14:=bX3 B14;have Z7:Hid (Sz (S+25000001) (aK p / f)):=Hi (ZS.out.div ZF.out)
 go_wp2_with fail
 refine cM (bO x7 ys (aK p / f) (aK q) _ (G7.out.raw Z7.out (by omega)) (HYS.out.raw ZU.out (by omega)) (nK HQ0.out)) fun x9 w9 hE G9=>?_
 refine mV8 hE ?_ B14 G7 B13 B9 B7 HX HXS HYS;clear B14 G7 B13 B9 B7 HX HXS HYS;intro B14 G7 B13 B9 B7 HX HXS HYS;refine mV3 hE ?_ HS1 HR1 HF1;clear HS1 HR1 HF1;intro HS1 HR1 HF1;have hs_w9:=hE.size;clear hE;replace b_B7:=bX3 B7;replace b_B9:=bX3 B9;replace b_B13:=bX3 B13;replace b_B14:=bX3 B14
 go_upto_region 8 with fail
 refine nmA ?_;intro w10 hE B16 hz_w10 hr_w10;refine mV8 hE ?_ G9 B14 G7 B13 B9 B7 HX HXS;clear G9 B14 G7 B13 B9 B7 HX HXS;intro G9 B14 G7 B13 B9 B7 HX HXS;refine mV4 hE ?_ HYS HS1 HR1 HF1;clear HYS HS1 HR1 HF1;intro HYS HS1 HR1 HF1;have hs_w10:=hE.size;clear hE;replace b_B7:=bX3 B7;replace b_B9:=bX3 B9;replace b_B13:=bX3 B13;replace b_B14:=bX3 B14;replace b_B16:=bX3 B16;have Z9:Hid (Sz (S+25000001+U) (aK p / f / aK q)):=Hi (Z7.out.div ZU.out);obtain ⟨sa,sn,sc⟩:=ss;obtain ⟨ra,rn,rc⟩:=rr;simp only at hsn hrn;simp only [SH.v];refine wpG 6 (fun opIx=>match opIx with
  | 2=>.spec (SH) (default) (SH.v) (fun x w'=>aG w' x (tz (s.map (·*(aK p / f / aK q)))))
  | 5=>.spec (SH) (default) (SH.v) (fun x w'=>aG w' x (tz (r.map (·*(aK p / f)))))
  | _=>.quiet) (fun _=>[]) fun w0 he0 hz0 hc0 hf0=>?_
 refine wps he0.out rfl rfl (fun w1 hW hG=>?_) fun x20=>?_
 ·exact spc [.slice sa sn sc,x9.v] Tryz.func102 ((br sa sn sc s x9 _ _ ((HS1.out.ext hW).can.raw ZSS.out (by decide)) ((G9.out.ext hW).raw Z9.out (by omega)) (by omega) (ZSS.out.mono (by decide)) (Z9.out.mono (by omega))).weak (fun _ _ _ h=>h.can))
 refine qZ ?_;refine wps he0.out rfl rfl (fun w1 hW hG=>?_) fun x21=>?_
 ·exact spc [.slice ra rn rc,x7.v] Tryz.func102 ((br ra rn rc r x7 _ _ ((HR1.out.ext hW).can.raw ZRR.out (by decide)) ((G7.out.ext hW).raw Z7.out (by omega)) (by omega) (ZRR.out.mono (by decide)) (Z7.out.mono (by omega))).weak (fun _ _ _ h=>h.can))
 refine qZ ?_;refine aj ?_;intro w11 hI;have hE:=he0.out.trans hI.ext;have G20:=gT (hI.facts 2);have G21:=gT (hI.facts 5);clear hI he0 hz0 hc0 hf0;refine mV8 hE ?_ B16 B14 B13 B9 B7 HX HXS HYS;clear B16 B14 B13 B9 B7 HX HXS HYS;intro B16 B14 B13 B9 B7 HX HXS HYS;refine mV5 hE ?_ HF1 HS1 G9 HR1 G7;clear HF1 HS1 G9 HR1 G7;intro HF1 HS1 G9 HR1 G7;have hs_w11:=hE.size;clear hE;replace b_B7:=bX3 B7;replace b_B9:=bX3 B9;replace b_B13:=bX3 B13;replace b_B14:=bX3 B14;replace b_B16:=bX3 B16;simp only [pD];go_wp2;exact bodyPost_ret (v:=QT (x20,x21)) (by simp [results,Tryz.results186,go_sem,QT]) rfl ⟨(x20,x21),rfl,HX.out,by rw [←HPL.out.1];exact G20.out,by rw [←HPL.out.2];exact G21.out⟩
theorem vq(pa qa:Option Addr)(P pc Q qc:Nat)(p q:List Rat)(S D E:Nat)(w:World)(hp:cV w ⟨pa,P,pc⟩ p)(hq:aG w ⟨qa,Q,qc⟩ q)(hP:P≤100000)(hQ:Q≤100000)
 (hS:1≤S)(hD:0<D)(hD2:D<W32 ^ S)(hE:0<E)(hE2:E<W32 ^ S)(hpf:∀ x ∈ p,Fr S D x)(hqf:∀ x ∈ q,Fr S E x)(K:Nat)(hsz:GZ K S p q)(hK:K≤16777216) :
  aq 149 [.slice pa P pc,.slice qa Q qc] w SH.v (fun x w'=>aG w' x (dp p q)∧GcR K (dp p q)):=by
 have HX:=Hi (Ext.refl w);have LP:=Hi (RIn.of hp);have LQ:=Hi hq.lin;have HPF:=Hi hpf;have HQF:=Hi hqf;obtain ⟨X0,hX0⟩:=GcI.start hS hD hE hpf hqf hsz (by have:=hp.len;simp only at this;omega) (by have:=hq.len;simp only at this;omega);have hSs:S+1≤16777216:=by
  have h1:=hX0.small;obtain ⟨X1,h2,h3⟩:=hsz;have:=h3.small;omega
 have hlp:(ax p).length≤P:=by have:=hp.len;have h2:=ai p;rw [aD];simp only at this;omega
 have hlq:(ax q).length≤Q:=by have:=hq.len;have h2:=ai q;rw [aD];simp only at this;omega
 have HG:=Hi hX0;clear hp hq hpf hqf hsz hX0;unfold aq;go_enter Tryz.func149,Tryz.ntmps149
 go_wp2_with fail
 refine cM (eK pa P pc p S D _ LP.out.raw (by omega) hS (by omega) hD hD2 HPF.out) fun x1 w1 hE G1=>?_
 refine mV3 hE ?_ HX LP LQ;clear HX LP LQ;intro HX LP LQ;have hs_w1:=hE.size;clear hE;obtain ⟨xs,xa⟩:=x1;have HXA:=Hi G1.out.2;clear G1;simp only [MT] at *
 go_upto_region 2 with fail
 refine nmA ?_;intro w2 hE B7 hz_w2 hr_w2;refine mV4 hE ?_ HX LP LQ HXA;clear HX LP LQ HXA;intro HX LP LQ HXA;have hs_w2:=hE.size;clear hE;replace b_B7:=bX3 B7
 go_wp2_with fail
 refine cM (iR qa Q qc q S E _ LQ.out.can (by omega) hS (by omega) hE hE2 HQF.out) fun x3 w3 hE G3=>?_
 refine mV5 hE ?_ B7 HX LP LQ HXA;clear B7 HX LP LQ HXA;intro B7 HX LP LQ HXA;have hs_w3:=hE.size;clear hE;replace b_B7:=bX3 B7;obtain ⟨ys,ya⟩:=x3;have HYA:=Hi G3.out.2;clear G3;simp only [MT] at *
 clear LP;clear LQ
 (try clear b_B7);clear B7
 go_wp2;refine nmA ?_;intro w4 hE B9 hz_w4 hr_w4;refine mV3 hE ?_ HX HXA HYA;clear HX HXA HYA;intro HX HXA HYA;have hs_w4:=hE.size;clear hE;replace b_B9:=bX3 B9;obtain ⟨La,hLa,rfl,hra⟩:=HXA.out;obtain ⟨Lb,hLb,rfl,hrb⟩:=HYA.out;have HA:=Hi (hra.can rfl (nXd _) (by omega));have HB:=Hi (hrb.can rfl (nXd _) (by omega));clear hra hrb hLa hLb HXA HYA B9 b_B9
 go_loopg [6,8] (ax q).length (fun g u v wr=>∃ (x y:SH) (a b:List Rat) (X:Nat),u=x.v∧v=y.v∧b.length≤g∧Ext w wr∧aG wr x a∧aG wr y b∧GcI K p q a b X)
 case atStart=>exact ⟨_,_,_,_,X0,rfl,rfl,nXd _,HX.out,HA.out,HB.out,HG.out⟩
 case round =>
  obtain ⟨⟨xa,xn,xc⟩,⟨ya,yn,yc⟩,a,b,X,rfl,rfl,hg,g1,g2,g3,g4⟩:=hrel;clear HX HA HB HG;have HX:=Hi g1;have LA:=Hi g2.lin;have LB:=Hi g3.lin;have HG:=Hi g4;have hxl:=g2.len;have hyl:=g3.len;simp only at hxl hyl;clear g1 g2 g3 g4;simp only [SH.v];by_cases h0:yn=0
  case pos =>
   subst h0;have hb:b=[]:=nXi.1 hyl;have HV:Hid (dp p q=cg a):=Hi (by have:=HG.out.2.2.2.2.2.2.1;rw [hb] at this;exact this.symm);have HZ:Hid (SzL X a):=Hi (fun x hx=>(HG.out.2.2.1 x hx).sz HG.out.2.2.2.2.1);have hXs:=HG.out.small;have han:=HG.out.2.2.2.2.2.2.2.1
   go_wp2_with fail
   refine cM (kJ xa xn xc a X _ LA.out.can (by omega) (by omega) HZ.out) fun x2 w2 hE G2=>?_
   refine mV3 hE ?_ HX LA LB;clear HX LA LB;intro HX LA LB;have hs_w2:=hE.size;clear hE;go_wp2
   go_ret
   exact ⟨x2,rfl,HX.out,by rw [HV.out];exact G2.out,HG.out.done hb⟩
  obtain ⟨m,rfl⟩:∃ m,yn=m+1:=⟨yn-1,by omega⟩;have hpos:(0:Int)<(m:Int)+1:=by omega
  have Hb0:Hid (b≠[]):=Hi (by intro h;rw [h] at hyl;simp at hyl);obtain ⟨e1,e2,e3,e4,e5,e6,e7,e8,e9⟩:=HG.out;have hsz2:=HG.out.size Hb0.out;have hsz3:X+(xn-m)*(X+1)≤K:=by rw [hxl,hyl,show xn+1-(m+1)=xn-m by omega] at hsz2;exact hsz2
  have hXs:=HG.out.small
  go_wp2_with fail
  refine cM (jO xa ya xn xc m yc a b X X _ LA.out.can LB.out.can e3 e4 e5 e5 e1 e2 (by omega) (by omega) (by omega) (by omega)) fun x4 w4 hE G4=>?_
  refine mV3 hE ?_ HX LA LB;clear HX LA LB;intro HX LA LB;have hs_w4:=hE.size;clear hE;obtain ⟨ss,⟨ra,rn,rc⟩,ff⟩:=x4;obtain ⟨s,r,f,hdv,h1,h2,h3⟩:=G4.out;obtain ⟨X2,hnx⟩:=HG.out.next Hb0.out hdv;have HNX:=Hi hnx;clear hnx;obtain ⟨d0,d1,d2,d3,d4,d5,d6,d7⟩:=hdv;have hrl:=h2.len;simp only at hrl;have HR1:=Hi h2.lin;have HRF:Hid (∀ x ∈ r,Fr (X+(a.length+1-b.length)*(X+1)) 1 x):=Hi (fun x hx=>by
   have hw:=d3 x hx;have e1:x*((1:Nat):Rat)=x:=Rat.mul_one x;unfold Fr;rw [e1];exact hw)
  have hsr:(ax r).length<b.length:=by rw [aD,d4];exact d5
  have hX1:1≤X+(a.length+1-b.length)*(X+1):=by omega
  have hW1:1<W32 ^ (X+(a.length+1-b.length)*(X+1)):=Nat.one_lt_pow (by omega) (by decide);have HLM:Hid (b.length=m+1):=Hi hyl;clear h1 h2 h3 G4 d0 d1 d2 d3 d4 d6 d7 e1 e2 e3 e4 e6 e7 hsz3;simp only [DT] at *
  go_upto_region 5 with fail
  refine nmA ?_;intro w5 hE B11 hz_w5 hr_w5;refine mV4 hE ?_ HX LA LB HR1;clear HX LA LB HR1;intro HX LA LB HR1;have hs_w5:=hE.size;clear hE;replace b_B11:=bX3 B11
  go_wp2_with fail
  refine cM (iR ra rn rc r (X+(a.length+1-b.length)*(X+1)) 1 _ HR1.out.can (by omega) hX1 (by omega) (by decide) hW1 HRF.out) fun x6 w6 hE G6=>?_
  refine mV5 hE ?_ B11 HX LA LB HR1;clear B11 HX LA LB HR1;intro B11 HX LA LB HR1;have hs_w6:=hE.size;clear hE;replace b_B11:=bX3 B11;obtain ⟨zs,za⟩:=x6;obtain ⟨Lz,hLz,hz,hrz⟩:=G6.out.2;have HZ:=Hi (hrz.can rfl (nXd _) (by omega));clear G6 hrz hLz;simp only [MT] at *
  subst hz;go_wp2
  go_roundg (gk-1)
  case measure=>omega
  case rel=>exact ⟨⟨ya,m+1,yc⟩,_,b,ax r,_,rfl,rfl,by omega,HX.out,LB.out.can,HZ.out,HNX.out⟩
theorem oX(s:RH)(q:Rat)(w:World)(h:aW w s q):aq 178 [s.v] w RH.v (fun r w'=>av w' r (-q)):=by
 have HR:=Hi h;have HX:=Hi (Ext.refl w);obtain ⟨neg,ao,n,c,bo,m,d⟩:=s;clear h;unfold aq;go_enter Tryz.func178,Tryz.ntmps178
 go_upto_region 1 with fail
 refine iU ?_;intro w1 hE B1 B2 hz_w1 hr_w1;replace HX:=hE.tr HX;have hs_w1:=hE.size;clear hE;replace b_B1:=bX3 B1;replace b_B2:=bX3 B2
 go_wp2_with fail
 refine cM (pv ⟨neg,ao,n,c,bo,m,d⟩ _) fun x1 w1 hE _=>?_
 refine mV3 hE ?_ B1 B2 HX;clear B1 B2 HX;intro B1 B2 HX;have hs_w1:=hE.size;clear hE;replace b_B1:=bX3 B1;replace b_B2:=bX3 B2
 go_wp2_with fail
 refine cM (bX ⟨!neg,ao,n,c,bo,m,d⟩ _ _ (HR.out.neg.ext HX.out)) fun x2 w2 hE G2=>?_
 refine mV3 hE ?_ B1 B2 HX;clear B1 B2 HX;intro B1 B2 HX;have hs_w2:=hE.size;clear hE;replace b_B1:=bX3 B1;replace b_B2:=bX3 B2;go_wp2;have hF:=((((Fin.start (L:=w.heap.size+1) HX.out (ah B2.out rfl)).set (by omega) (i:=0) (v:=.bool x2.neg) rfl).set (by omega) (i:=1) (v:=.slice x2.a x2.n x2.c) rfl).set (by omega) (i:=2) (v:=.slice x2.b x2.m x2.d) rfl);exact bodyPost_ret (v:=x2.v) (by simp [results,Tryz.results178,go_sem,ab B2.out]) rfl ⟨x2,rfl,hF.ext,G2.out.keep hF.keep⟩
theorem yv(ao bo:Option Addr)(n c m d:Nat)(p q:List Rat)(w:World)(h:cV w ⟨ao,n,c⟩ p)(k:cV w ⟨bo,m,d⟩ q)(hmn:m≤n)(hn:n≤1000000)(hz:SzL 33554432 p)(kz:SzL 33554432 q) :
  aq 119 [.slice ao n c,.slice bo m d] w SH.v (fun s w'=>bR w.heap.size w' s (bf p q)):=by
 obtain ⟨i0,hi0,hz0,hz1,hz2⟩:=info_parts iW;have H:=Hi h;have K:=Hi k;have HX:=Hi (Ext.refl w);have hle:=h.le;have hmx:=h.max;have kle:=k.le;have kmx:=k.max;have Hn:=Hi h.len;have Hm:=Hi k.len;simp only at hle hmx kle kmx Hn Hm;have HZ:=Hi hz;have KZ:=Hi kz;have hlt:¬ (n:Int)<m:=by omega
 clear h k hz kz;unfold aq;go_enter Tryz.func119,Tryz.ntmps119
 go_upto_region 4 with (refine ay rfl (.tmp 15) (.tmp 15) 24 rfl 34 i0 (RH.v default) 3 Tryz.underlying24 hi0 hz0 hz1 _ _ n rfl rfl (by omega) (by omega) (by rw [hz2];omega) (by omega) ?_;intro w2 hnew hE)
 have KB:=Hi (RBk.make rfl hnew);clear hnew;replace HX:=hE.tr HX;have hs_w2:=hE.size;clear hE;obtain ⟨L,hL⟩:∃ L,L=w.heap.size:=⟨_,rfl⟩;have hLw:w.heap.size≤L:=by omega
 rw [←hL] at KB ⊢;clear hL;go_wp2
 go_loopg [19] n (fun g v wr=>∃ (i:Nat) (rs:List RH),i+g=n∧v=.int .i64 (i:Nat)∧Ext w wr∧RBk wr L rs #[]∧rs.length=n∧gA wr rs ((List.range i).map (fun i=>p.getD i 0+q.getD i 0)))
 case atStart=>exact ⟨0,_,by omega,rfl,HX.out,KB.out,by simp,fun j hj=>by simp at hj⟩
 case round =>
  obtain ⟨i,rs,hi,rfl,g1,g4,g5,g6⟩:=hrel;clear HX KB;have HX:=Hi g1;have KB:=Hi g4;have HRl:=Hi g5;have PC:=Hi g6;clear g1 g4 g5 g6;have HTl:Hid (((List.range i).map (fun i=>p.getD i 0+q.getD i 0)).length=i):=Hi (by simp)
  try clear f_KB l_KB
  have f_KB:=ae KB.out;have l_KB:=(nXa.1 KB.out).1;by_cases h0:gk=0
  case pos =>
   subst h0;obtain rfl:i=n:=by omega
   have hin:¬ (i:Int)<i:=by omega
   have HV:Hid (bf p q=tz ((List.range i).map (fun i=>p.getD i 0+q.getD i 0))):=Hi (by unfold bf;rw [Hn.out,Hm.out,show max i m=i by omega]);obtain ⟨ts,hts⟩:∃ ts,ts=(List.range i).map (fun i=>p.getD i 0+q.getD i 0):=⟨_,rfl⟩;have HSz:Hid (SzL 67108865 ts):=Hi (by
    intro x hx;rw [hts] at hx;obtain ⟨y,hy,rfl⟩:=nYd.1 hx;exact ((HZ.out.getD (by decide) y).add (KZ.out.getD (by decide) y)).mono (by decide))
   rw [←hts] at PC HTl HV;clear hts;have LL:Hid (bR w.heap.size wr ⟨some ⟨L,0,none⟩,i,i⟩ ts):=Hi (gA.list PC.out KB.out HRl.out HTl.out hLw (by omega));clear KB;clear PC
   go_wp2_with fail
   refine cM (dC (some ⟨L,0,none⟩) i i ts _ (LL.out.can.raw HSz.out (by decide))) fun x1 w1 hE G1=>?_
   refine mV2 hE ?_ HX LL;clear HX LL;intro HX LL;have hs_w1:=hE.size;clear hE;obtain ⟨q1,q2⟩:=G1.out;have HQ1:=Hi q1;have HQ2:=Hi q2;clear q1 q2 G1;go_wp2
   go_ret
   refine ⟨⟨some ⟨L,0,none⟩,(tz ts).length,i⟩,rfl,HX.out,?_⟩;have:=LIn.take LL.out HQ2.out;rw [←HQ1.out] at this;rw [HV.out];exact this
  have hin:(i:Int)<n:=by omega
  obtain ⟨b,off,r,hao,hbl,⟨hc1,hc2,hc3⟩,hP⟩:=(H.out.ext HX.out).cells' (k:=i) (by omega);obtain ⟨rneg,ra,rn,rc,rb,rm,rd⟩:=r;simp only at hc1 hc2 hc3;subst hao;have RP:=Hi hP;clear hP;have HMp:Hid ((List.range i).map (fun i=>p.getD i 0+q.getD i 0)++[p.getD i 0+q.getD i 0]=(List.range (i+1)).map (fun i=>p.getD i 0+q.getD i 0)):=Hi (bL (fun i=>p.getD i 0+q.getD i 0) i).symm;by_cases hm1:i<m
  case pos =>
   have him:(i:Int)<m:=by omega
   obtain ⟨b',off',r',hbo,hbl',⟨kc1,kc2,kc3⟩,hQ⟩:=(K.out.ext HX.out).cells' (k:=i) (by omega);obtain ⟨sneg,sa,sn,sc,sb,sm,sd⟩:=r';simp only at kc1 kc2 kc3;subst hbo;have RQ:=Hi hQ;clear hQ
   go_upto_region 8 with fail
   refine wpG 12 (fun opIx=>match opIx with
    | 10=>.spec RH default RH.v (fun s w'=>av w' s (p.getD i 0+q.getD i 0))
    | _=>.quiet) (fun _=>[]) fun w0 he0 hz0 hc0 hf0=>?_
   refine wps he0.out rfl rfl (fun w1 hW hG=>?_) fun x10=>?_
   ·exact spc [RH.v ⟨rneg,ra,rn,rc,rb,rm,rd⟩,RH.v ⟨sneg,sa,sn,sc,sb,sm,sd⟩] Tryz.func118 (cK _ _ _ _ _ (RP.out.ext hW) (RQ.out.ext hW))
   refine qZ ?_;refine aj ?_;intro w5 hI;have hE:=he0.out.trans hI.ext;have G10:=gT (hI.facts 10);clear hI he0 hz0 hc0 hf0;refine mV3 hE ?_ KB PC HX;clear KB PC HX;intro KB PC HX;have hs_w5:=hE.size;clear hE
   try clear f_KB l_KB
   have f_KB:=ae KB.out;have l_KB:=(nXa.1 KB.out).1;simp only [pD];obtain ⟨f1,f2,f3⟩:=RBk.at (re:=#[]) KB.out (k:=i) (by rw [HRl.out];omega)
   go_upto_region 10 with fail
   refine dH (k:=i) KB.out rfl (by rw [HRl.out];omega) ?_;intro y6 T;clear f1 f2 f3 hc1 hc2 hc3 kc1 kc2 kc3;replace HX:=Hi (T.ext HX.out (by omega));replace PC:=Hi (PC.out.keep T.keep);replace KB:=Hi (T.bx);replace G10:=Hi (G10.out.keep T.keep);have hs_y6:=nle T.size;have hr_y6:=nle T.size.symm;clear T
   try clear f_KB l_KB
   have f_KB:=ae KB.out;have l_KB:=(nXa.1 KB.out).1;replace PC:=Hi (PC.out.snoc (x:=x10) (i:=i) HTl.out (by rw [HRl.out];omega) G10.out);rw [HMp.out] at PC;go_wp2
   go_roundg (gk-1)
   case measure=>omega
   case rel=>exact ⟨i+1,_,by omega,by go_num,HX.out,KB.out,by rw [nXn];exact HRl.out,PC.out⟩
  have him:¬ (i:Int)<m:=by omega
  have HQ0:Hid (p.getD i 0+q.getD i 0=p.getD i 0):=Hi (by rw [bB (l:=q) (by rw [Hm.out];omega)];exact Rat.add_zero _)
  go_wp2_with fail
  refine cM (bX ⟨rneg,ra,rn,rc,rb,rm,rd⟩ (p.getD i 0) _ RP.out) fun x4 w4 hE G4=>?_
  refine mV3 hE ?_ HX KB PC;clear HX KB PC;intro HX KB PC;have hs_w4:=hE.size;clear hE
  try clear f_KB l_KB
  have f_KB:=ae KB.out;have l_KB:=(nXa.1 KB.out).1;obtain ⟨f1,f2,f3⟩:=RBk.at (re:=#[]) KB.out (k:=i) (by rw [HRl.out];omega)
  go_upto_region 10 with fail
  refine dH (k:=i) KB.out rfl (by rw [HRl.out];omega) ?_;intro y6 T;clear f1 f2 f3 hc1 hc2 hc3;replace HX:=Hi (T.ext HX.out (by omega));replace PC:=Hi (PC.out.keep T.keep);replace KB:=Hi (T.bx);replace G4:=Hi (G4.out.keep T.keep);have hs_y6:=nle T.size;have hr_y6:=nle T.size.symm;clear T
  try clear f_KB l_KB
  have f_KB:=ae KB.out;have l_KB:=(nXa.1 KB.out).1;replace PC:=Hi (PC.out.snoc (x:=x4) (q:=p.getD i 0+q.getD i 0) (i:=i) HTl.out (by rw [HRl.out];omega) (by rw [HQ0.out];exact G4.out));rw [HMp.out] at PC;go_wp2
  go_roundg (gk-1)
  case measure=>omega
  case rel=>exact ⟨i+1,_,by omega,by go_num,HX.out,KB.out,by rw [nXn];exact HRl.out,PC.out⟩
theorem yu(ao bo:Option Addr)(n c m d:Nat)(p q:List Rat)(w:World)(h:cV w ⟨ao,n,c⟩ p)(k:cV w ⟨bo,m,d⟩ q)(hmn:m<n)(hn:n≤1000000)(hz:SzL 33554432 p)(kz:SzL 33554432 q) :
  aq 119 [.slice bo m d,.slice ao n c] w SH.v (fun s w'=>bR w.heap.size w' s (bf q p)):=by
 obtain ⟨i0,hi0,hz0,hz1,hz2⟩:=info_parts iW;have H:=Hi h;have K:=Hi k;have HX:=Hi (Ext.refl w);have hle:=h.le;have hmx:=h.max;have kle:=k.le;have kmx:=k.max;have Hn:=Hi h.len;have Hm:=Hi k.len;simp only at hle hmx kle kmx Hn Hm;have HZ:=Hi hz;have KZ:=Hi kz;have hlt:(m:Int)<n:=by omega
 clear h k hz kz;unfold aq;go_enter Tryz.func119,Tryz.ntmps119
 go_upto_region 4 with (refine ay rfl (.tmp 15) (.tmp 15) 24 rfl 34 i0 (RH.v default) 3 Tryz.underlying24 hi0 hz0 hz1 _ _ n rfl rfl (by omega) (by omega) (by rw [hz2];omega) (by omega) ?_;intro w2 hnew hE)
 have KB:=Hi (RBk.make rfl hnew);clear hnew;replace HX:=hE.tr HX;have hs_w2:=hE.size;clear hE;obtain ⟨L,hL⟩:∃ L,L=w.heap.size:=⟨_,rfl⟩;have hLw:w.heap.size≤L:=by omega
 rw [←hL] at KB ⊢;clear hL;go_wp2
 go_loopg [19] n (fun g v wr=>∃ (i:Nat) (rs:List RH),i+g=n∧v=.int .i64 (i:Nat)∧Ext w wr∧RBk wr L rs #[]∧rs.length=n∧gA wr rs ((List.range i).map (fun i=>p.getD i 0+q.getD i 0)))
 case atStart=>exact ⟨0,_,by omega,rfl,HX.out,KB.out,by simp,fun j hj=>by simp at hj⟩
 case round =>
  obtain ⟨i,rs,hi,rfl,g1,g4,g5,g6⟩:=hrel;clear HX KB;have HX:=Hi g1;have KB:=Hi g4;have HRl:=Hi g5;have PC:=Hi g6;clear g1 g4 g5 g6;have HTl:Hid (((List.range i).map (fun i=>p.getD i 0+q.getD i 0)).length=i):=Hi (by simp)
  try clear f_KB l_KB
  have f_KB:=ae KB.out;have l_KB:=(nXa.1 KB.out).1;by_cases h0:gk=0
  case pos =>
   subst h0;obtain rfl:i=n:=by omega
   have hin:¬ (i:Int)<i:=by omega
   have HV:Hid (bf q p=tz ((List.range i).map (fun i=>p.getD i 0+q.getD i 0))):=Hi (by unfold bf;rw [Hn.out,Hm.out,show max m i=i by omega];congr 2;funext j;exact Rat.add_comm _ _);obtain ⟨ts,hts⟩:∃ ts,ts=(List.range i).map (fun i=>p.getD i 0+q.getD i 0):=⟨_,rfl⟩;have HSz:Hid (SzL 67108865 ts):=Hi (by
    intro x hx;rw [hts] at hx;obtain ⟨y,hy,rfl⟩:=nYd.1 hx;exact ((HZ.out.getD (by decide) y).add (KZ.out.getD (by decide) y)).mono (by decide))
   rw [←hts] at PC HTl HV;clear hts;have LL:Hid (bR w.heap.size wr ⟨some ⟨L,0,none⟩,i,i⟩ ts):=Hi (gA.list PC.out KB.out HRl.out HTl.out hLw (by omega));clear KB;clear PC
   go_wp2_with fail
   refine cM (dC (some ⟨L,0,none⟩) i i ts _ (LL.out.can.raw HSz.out (by decide))) fun x1 w1 hE G1=>?_
   refine mV2 hE ?_ HX LL;clear HX LL;intro HX LL;have hs_w1:=hE.size;clear hE;obtain ⟨q1,q2⟩:=G1.out;have HQ1:=Hi q1;have HQ2:=Hi q2;clear q1 q2 G1;go_wp2
   go_ret
   refine ⟨⟨some ⟨L,0,none⟩,(tz ts).length,i⟩,rfl,HX.out,?_⟩;have:=LIn.take LL.out HQ2.out;rw [←HQ1.out] at this;rw [HV.out];exact this
  have hin:(i:Int)<n:=by omega
  obtain ⟨b,off,r,hao,hbl,⟨hc1,hc2,hc3⟩,hP⟩:=(H.out.ext HX.out).cells' (k:=i) (by omega);obtain ⟨rneg,ra,rn,rc,rb,rm,rd⟩:=r;simp only at hc1 hc2 hc3;subst hao;have RP:=Hi hP;clear hP;have HMp:Hid ((List.range i).map (fun i=>p.getD i 0+q.getD i 0)++[p.getD i 0+q.getD i 0]=(List.range (i+1)).map (fun i=>p.getD i 0+q.getD i 0)):=Hi (bL (fun i=>p.getD i 0+q.getD i 0) i).symm;by_cases hm1:i<m
  case pos =>
   have him:(i:Int)<m:=by omega
   obtain ⟨b',off',r',hbo,hbl',⟨kc1,kc2,kc3⟩,hQ⟩:=(K.out.ext HX.out).cells' (k:=i) (by omega);obtain ⟨sneg,sa,sn,sc,sb,sm,sd⟩:=r';simp only at kc1 kc2 kc3;subst hbo;have RQ:=Hi hQ;clear hQ
   go_upto_region 8 with fail
   refine wpG 12 (fun opIx=>match opIx with
    | 10=>.spec RH default RH.v (fun s w'=>av w' s (p.getD i 0+q.getD i 0))
    | _=>.quiet) (fun _=>[]) fun w0 he0 hz0 hc0 hf0=>?_
   refine wps he0.out rfl rfl (fun w1 hW hG=>?_) fun x10=>?_
   ·exact spc [RH.v ⟨rneg,ra,rn,rc,rb,rm,rd⟩,RH.v ⟨sneg,sa,sn,sc,sb,sm,sd⟩] Tryz.func118 (cK _ _ _ _ _ (RP.out.ext hW) (RQ.out.ext hW))
   refine qZ ?_;refine aj ?_;intro w5 hI;have hE:=he0.out.trans hI.ext;have G10:=gT (hI.facts 10);clear hI he0 hz0 hc0 hf0;refine mV3 hE ?_ KB PC HX;clear KB PC HX;intro KB PC HX;have hs_w5:=hE.size;clear hE
   try clear f_KB l_KB
   have f_KB:=ae KB.out;have l_KB:=(nXa.1 KB.out).1;simp only [pD];obtain ⟨f1,f2,f3⟩:=RBk.at (re:=#[]) KB.out (k:=i) (by rw [HRl.out];omega)
   go_upto_region 10 with fail
   refine dH (k:=i) KB.out rfl (by rw [HRl.out];omega) ?_;intro y6 T;clear f1 f2 f3 hc1 hc2 hc3 kc1 kc2 kc3;replace HX:=Hi (T.ext HX.out (by omega));replace PC:=Hi (PC.out.keep T.keep);replace KB:=Hi (T.bx);replace G10:=Hi (G10.out.keep T.keep);have hs_y6:=nle T.size;have hr_y6:=nle T.size.symm;clear T
   try clear f_KB l_KB
   have f_KB:=ae KB.out;have l_KB:=(nXa.1 KB.out).1;replace PC:=Hi (PC.out.snoc (x:=x10) (i:=i) HTl.out (by rw [HRl.out];omega) G10.out);rw [HMp.out] at PC;go_wp2
   go_roundg (gk-1)
   case measure=>omega
   case rel=>exact ⟨i+1,_,by omega,by go_num,HX.out,KB.out,by rw [nXn];exact HRl.out,PC.out⟩
  have him:¬ (i:Int)<m:=by omega
  have HQ0:Hid (p.getD i 0+q.getD i 0=p.getD i 0):=Hi (by rw [bB (l:=q) (by rw [Hm.out];omega)];exact Rat.add_zero _)
  go_wp2_with fail
  refine cM (bX ⟨rneg,ra,rn,rc,rb,rm,rd⟩ (p.getD i 0) _ RP.out) fun x4 w4 hE G4=>?_
  refine mV3 hE ?_ HX KB PC;clear HX KB PC;intro HX KB PC;have hs_w4:=hE.size;clear hE
  try clear f_KB l_KB
  have f_KB:=ae KB.out;have l_KB:=(nXa.1 KB.out).1;obtain ⟨f1,f2,f3⟩:=RBk.at (re:=#[]) KB.out (k:=i) (by rw [HRl.out];omega)
  go_upto_region 10 with fail
  refine dH (k:=i) KB.out rfl (by rw [HRl.out];omega) ?_;intro y6 T;clear f1 f2 f3 hc1 hc2 hc3;replace HX:=Hi (T.ext HX.out (by omega));replace PC:=Hi (PC.out.keep T.keep);replace KB:=Hi (T.bx);replace G4:=Hi (G4.out.keep T.keep);have hs_y6:=nle T.size;have hr_y6:=nle T.size.symm;clear T
  try clear f_KB l_KB
  have f_KB:=ae KB.out;have l_KB:=(nXa.1 KB.out).1;replace PC:=Hi (PC.out.snoc (x:=x4) (q:=p.getD i 0+q.getD i 0) (i:=i) HTl.out (by rw [HRl.out];omega) (by rw [HQ0.out];exact G4.out));rw [HMp.out] at PC;go_wp2
  go_roundg (gk-1)
  case measure=>omega
  case rel=>exact ⟨i+1,_,by omega,by go_num,HX.out,KB.out,by rw [nXn];exact HRl.out,PC.out⟩
theorem dP(ao bo:Option Addr)(n c m d:Nat)(p q:List Rat)(w:World)(h:cV w ⟨ao,n,c⟩ p)(k:cV w ⟨bo,m,d⟩ q)(hn:n≤1000000)(hm:m≤1000000)(hz:SzL 33554432 p)(kz:SzL 33554432 q) :
  aq 119 [.slice ao n c,.slice bo m d] w SH.v (fun s w'=>bR w.heap.size w' s (bf p q)):=by
 rcases Nat.lt_or_ge n m with h1|h1
 ·exact yu bo ao m d n c q p w k h h1 hm kz hz
 ·exact yv ao bo n c m d p q w h k h1 hn hz kz
def subV(p q:List Rat):List Rat:=bf p (q.map (fun x=>-x))
theorem u6(ao bo:Option Addr)(n c m d:Nat)(p q:List Rat)(w:World)(h:cV w ⟨ao,n,c⟩ p)(k:cV w ⟨bo,m,d⟩ q)(hn:n≤1000000)(hm:m≤1000000)(hz:SzL 33554432 p)(kz:SzL 33554432 q) :
  aq 116 [.slice ao n c,.slice bo m d] w SH.v (fun s w'=>bR w.heap.size w' s (subV p q)):=by
 obtain ⟨i0,hi0,hz0,hz1,hz2⟩:=info_parts iW;have H:=Hi h;have K:=Hi k;have HX:=Hi (Ext.refl w);have kle:=k.le;have kmx:=k.max;have Hm:=Hi k.len;simp only at kle kmx Hm;have HZ:=Hi hz;have KZ:=Hi kz;clear h k hz kz;unfold aq;go_enter Tryz.func116,Tryz.ntmps116
 go_upto_region 2 with (refine ay rfl (.tmp 8) (.tmp 8) 24 rfl 34 i0 (RH.v default) 3 Tryz.underlying24 hi0 hz0 hz1 _ _ m rfl rfl (by omega) (by omega) (by rw [hz2];omega) (by omega) ?_;intro w2 hnew hE)
 have KB:=Hi (RBk.make rfl hnew);clear hnew;replace HX:=hE.tr HX;have hs_w2:=hE.size;clear hE;obtain ⟨L,hL⟩:∃ L,L=w.heap.size:=⟨_,rfl⟩;have hLw:w.heap.size≤L:=by omega
 rw [←hL] at KB ⊢;clear hL;go_wp2
 go_loopg [12] m (fun g v wr=>∃ (i:Nat) (rs:List RH),i+g=m∧v=.int .i64 (i:Nat)∧Ext w wr∧RBk wr L rs #[]∧rs.length=m∧gA wr rs ((q.take i).map (fun x=>-x)))
 case atStart=>exact ⟨0,_,by omega,rfl,HX.out,KB.out,by simp,fun j hj=>by simp at hj⟩
 case round =>
  obtain ⟨i,rs,hi,rfl,g1,g4,g5,g6⟩:=hrel;clear HX KB;have HX:=Hi g1;have KB:=Hi g4;have HRl:=Hi g5;have PC:=Hi g6;clear g1 g4 g5 g6;have HTl:Hid (((q.take i).map (fun x=>-x)).length=i):=Hi (by rw [nXk,nXj,Hm.out];omega)
  try clear f_KB l_KB
  have f_KB:=ae KB.out;have l_KB:=(nXa.1 KB.out).1;by_cases h0:gk=0
  case pos =>
   subst h0;obtain rfl:i=m:=by omega
   have hin:¬ (i:Int)<i:=by omega
   have HE:Hid (q.take i=q):=Hi (nXl (by rw [Hm.out];exact nXd _));rw [HE.out] at PC HTl;obtain ⟨ts,hts⟩:∃ ts,ts=q.map (fun x=>-x):=⟨_,rfl⟩;have HSz:Hid (SzL 33554432 ts):=Hi (by
    intro x hx;rw [hts] at hx;obtain ⟨y,hy,rfl⟩:=nYd.1 hx;exact (KZ.out y hy).neg)
   have HV:Hid (subV p q=bf p ts):=Hi (by rw [hts];rfl);rw [←hts] at PC HTl;clear hts;have LL:Hid (bR w.heap.size wr ⟨some ⟨L,0,none⟩,i,i⟩ ts):=Hi (gA.list PC.out KB.out HRl.out HTl.out hLw (by omega));clear KB;clear PC
   go_wp2_with fail
   refine cM (dP ao (some ⟨L,0,none⟩) n c i i p ts _ (H.out.ext HX.out) (LL.out.can.raw HSz.out (by decide)) hn hm HZ.out HSz.out) fun x1 w1 hE G1=>?_
   refine mV2 hE ?_ HX LL;clear HX LL;intro HX LL;have hs_w1:=hE.size;clear hE;go_wp2
   go_ret
   exact ⟨x1,rfl,HX.out,by rw [HV.out];exact G1.out.mono (by omega)⟩
  have hin:(i:Int)<m:=by omega
  obtain ⟨b,off,r,hao,hbl,⟨hc1,hc2,hc3⟩,hP⟩:=(K.out.ext HX.out).cells' (k:=i) (by omega);obtain ⟨rneg,ra,rn,rc,rb,rm,rd⟩:=r;simp only at hc1 hc2 hc3;subst hao;have RP:=Hi hP;clear hP
  go_wp2_with fail
  refine cM (oX ⟨rneg,ra,rn,rc,rb,rm,rd⟩ (q.getD i 0) _ RP.out) fun x4 w4 hE G4=>?_
  refine mV3 hE ?_ KB PC HX;clear KB PC HX;intro KB PC HX;have hs_w4:=hE.size;clear hE
  try clear f_KB l_KB
  have f_KB:=ae KB.out;have l_KB:=(nXa.1 KB.out).1;obtain ⟨f1,f2,f3⟩:=RBk.at (re:=#[]) KB.out (k:=i) (by rw [HRl.out];omega)
  go_upto_region 6 with fail
  refine dH (k:=i) KB.out rfl (by rw [HRl.out];omega) ?_;intro y6 T;clear f1 f2 f3 hc1 hc2 hc3;replace HX:=Hi (T.ext HX.out (by omega));replace PC:=Hi (PC.out.keep T.keep);replace KB:=Hi (T.bx);replace G4:=Hi (G4.out.keep T.keep);have hs_y6:=nle T.size;have hr_y6:=nle T.size.symm;clear T
  try clear f_KB l_KB
  have f_KB:=ae KB.out;have l_KB:=(nXa.1 KB.out).1;replace PC:=Hi (PC.out.snoc (x:=x4) (i:=i) HTl.out (by rw [HRl.out];omega) G4.out);have HMp:Hid ((q.take i).map (fun x=>-x)++[-(q.getD i 0)]=(q.take (i+1)).map (fun x=>-x)):=Hi (by rw [←fy (by rw [Hm.out];omega),List.map_append];rfl);rw [HMp.out] at PC;go_wp2
  go_roundg (gk-1)
  case measure=>omega
  case rel=>exact ⟨i+1,_,by omega,by go_num,HX.out,KB.out,by rw [nXn];exact HRl.out,PC.out⟩
end Go.Proofs.YtafgmcimcbhhjaaGreat
